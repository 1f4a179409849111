/- InverseTwice answers true -/
import Derived.Test.YtpkfpbpbkabkdaaGreatAgain
set_option linter.unusedVariables false
set_option linter.unusedSimpArgs false
namespace Go.Vs
open Go.Proofs
variable {G:(f:FuncId)→(g:aX)→Option (g.A→Option g.B)}
theorem Xv{o:aW}(h:bm o=0)(hk:o.1=3):pQ (oA o)=true∧pQ (oB o)=true:=by
 unfold bm at h
 split at h;· cases h
 split at h;· cases h
 split at h;· cases h
 split at h;· cases h
 split at h
 ·assumption
 ·cases h
theorem QB{c:ml}(h:pQ c=true):EY c.2.2:=by
 unfold pQ Je at h;simp only[Bool.and_eq_true,Bool.or_eq_true,decide_eq_true_eq]at h;unfold EY;rcases h.2 with h|h
 ·omega
 ·rw[h];exact⟨by decide,by decide⟩
theorem MK:e0.size≤100000000:=by simp[e0,ByteArray.size]
theorem QC{o:aW}(h:bm o=0):Fit o:=by
 have hr:=MF h;obtain⟨k1,k8⟩:=kC h;have h3:=Xv h;have h5:=nc h;have h8:=Fa h;have h7:=Ax h;obtain⟨k,x,nw,ot,a,b,oe,t,n⟩:=o;simp only at k1 k8 h3 h5 h8 h7;have fin:EY a.2.2→EY b.2.2→EY n→t.size≤100000000→Fit (k,x,nw,ot,a,b,oe,t,n):=fun p q r u=>⟨p,q,r,u⟩;have z:∀c:ml,c=zC→EY c.2.2:=fun c e=>by subst e;exact sF
 unfold kr at hr;by_cases c3:k=3
 ·subst c3;simp only[if_true,F2,Prod.mk.injEq,true_and]at hr;obtain⟨rfl,rfl,rfl,rfl,rfl⟩:=hr;obtain⟨p,q⟩:=h3 rfl;exact fin (QB p) (QB q) sF MK
 by_cases c5:k=5
 ·subst c5;simp only[show ¬(5:Int)=3 by decide,if_false,if_true,F2,Prod.mk.injEq,true_and,and_true]at hr;obtain⟨rfl,rfl,rfl,rfl⟩:=hr;obtain⟨_,_,p,q⟩:=h5 rfl;exact fin sF sF (by show EY n;have p:0≤n:=p;have q:n≤3:=q;unfold EY;omega) MK
 by_cases c6:k=6
 ·subst c6;simp only[show ¬(6:Int)=3 by decide,show ¬(6:Int)=5 by decide,if_false,if_true,F2,Prod.mk.injEq,true_and]at hr;obtain⟨rfl,rfl,rfl,rfl,rfl,rfl⟩:=hr;exact fin sF sF sF MK
 by_cases c7:k=7
 ·subst c7;simp only[show ¬(7:Int)=3 by decide,show ¬(7:Int)=5 by decide,show ¬(7:Int)=6 by decide,if_false,if_true,F2,Prod.mk.injEq,true_and]at hr;obtain⟨rfl,rfl,rfl,rfl,rfl⟩:=hr;have:=Se (h7 rfl);exact fin sF sF sF (by have:t.size≤16:=this;omega)
 by_cases c8:k=8
 ·subst c8;simp only[show ¬(8:Int)=3 by decide,show ¬(8:Int)=5 by decide,show ¬(8:Int)=6 by decide,show ¬(8:Int)=7 by decide,if_false,if_true,F2,Prod.mk.injEq,true_and,and_true]at hr;obtain⟨rfl,rfl,rfl,rfl,rfl⟩:=hr;exact fin sF sF (YY (h8 rfl)) MK
 ·simp only[if_neg c3,if_neg c5,if_neg c6,if_neg c7,if_neg c8,F2,Prod.mk.injEq,true_and]at hr;obtain⟨rfl,rfl,rfl,rfl,rfl,rfl,rfl⟩:=hr;exact fin sF sF sF MK
theorem Xw{s:StateT}(hw:dN s)(o:aW):∀p∈mR s o,bm p=0:=by
 unfold mR
 split
 ·intro p hp;cases hp
 ·rename_i h;exact(Qw hw (by simpa using h)).1
theorem SM{e:List aW}{m:Nat}(hb:cF He e≤m):∀o∈e,o.2.2.2.2.2.2.2.1.size≤m:=fun o ho=>by have h1:cF He e=(e.map (cF j4)).sum+1:=rfl;rw[h1]at hb;have h3:=CG (cF j4) ho;have h4:=RU o;omega
theorem AW:∀(l:List aW) {s:StateT} {acc:List aW},dN s→(∀p∈acc,bm p=0)→∀p∈oy l s acc,bm p=0
 |[],_,_,_,h=>h
 |o::r,s,acc,hs,h=>AW r (hs.one o) fun p hp=>(abw.1 hp).elim (Xw hs o p) (h p)
theorem Ia:∀(l:List aW) {s:StateT} {acc:List aW},dN s→(oy l s acc).length≤acc.length+5*l.length
 |[],_,_,_=>by simp[oy]
 |o::r,s,acc,hs=>by have h1:=Ia r (acc:=mR s o++acc) (hs.one o);have h2:=FM hs o;rw[List.length_append]at h1;show(oy r (bT s o).1 (mR s o++acc)).length≤_;rw[List.length_cons];omega
theorem ZO{s:StateT}{l:List aW}(hs:dN s)(hg:bK s.1=0)(h0:(cX s l).2.1=0){u:StateT}(hu:dN u)(e:u.1=(cX s l).1.1) :
  ∃w,dN w∧w.1=s.1∧j5 (oy l s []) u=(w,(0,()))∧Cd (oy l s []) u:=by
 have ha:=ox h0;rw[ha]at h0 e;obtain⟨w,q1,q2,q3,q4⟩:=AU l [] hs hg (show j5 l s=((j5 l s).1,(0,())) from Prod.ext rfl (Prod.ext h0 rfl)) hu e;exact⟨w,q1,q2,q3,q4 trivial⟩
theorem ML:∀(l:List aW) {s t:StateT} {acc:List aW},j5 l s=(t,(0,()))→Cd l s→(oy l s acc).length=l.length+acc.length
 |[],_,_,_,_,_=>by simp[oy]
 |o::r,s,t,acc,h,k=>by
  have h0:(j5 (o::r) s).2.1=0:=by rw[h]
  obtain⟨h1,h2,h3⟩:=go_step h0
  rw[h3]at h;have q:=ML r (acc:=mR s o++acc) h k.2;have hp:mR s o=hM s o:=by unfold mR;rw[if_neg (by simp[h1])]
  show(oy r (bT s o).1 (mR s o++acc)).length=_;rw[q,List.length_append,hp,k.1,List.length_cons];omega
theorem ZP(hG:HG G)(JK:∀o,pS G o)(s:StateT)(e:List aW)(hs:Sm s.1)(hg:s.2.length≤50000000)(tv:∀v∈s.1.1,v.2.2.1.size≤100000000)(te:∀e∈s.1.2,e.2.1.size≤100000000)(hf:∀o∈e,Fit o):FX G 12 xX ((s,e,()),())=some ((true,()),()):=by
 refine aB (hG _ _ rfl) afd ?_;refine aa (ahx hG JK) ?_;obtain⟨b,k1,k2⟩:=ahw hG s hs hg tv te;refine aa k1 ?_
 cases b with
 |false=>rfl
 |true =>
  obtain⟨hw,ahW⟩:=k2 rfl;have hn:=hw.n;refine ag rfl (aa (ahy hG e) ?_);have hlen:(e.take 8).length≤8:=by simp;omega
  have hfk:∀o∈e.take 8,Fit o:=fun o ho=>hf o (adC ho);generalize e.take 8=p at *;refine aa (ahz hG JK s p hw hlen hfk) ?_;have hbs:Bs 1000 s:=⟨hw.d.bd.mono (by omega),by omega⟩;unfold ofR;by_cases h0:(cX s p).2.1=0
  case neg =>
   rw[if_pos h0];exact af (show((cX s p).2.1 != 0)=true by simp[h0]) rfl
  rw[if_neg (by simp[h0])];refine ag rfl (aa (alE hG s p hbs (by omega) fun o ho=>(hfk o ho).t) ?_);have hwa:=hw.apply p;have hga:=OT hw ahW p;obtain⟨w,w1,w2,w3,w4⟩:=ZO hw ahW h0 hwa rfl;have Bv:=Ia p (acc:=[]) hw;have ZM:=AW p (acc:=[]) hw (fun p hp=>by cases hp);have O5:(oy p s []).length≤40:=by simp at Bv;omega
  generalize (cX s p).1=t at *;generalize oy p s []=l at *;obtain⟨z,z1,z2,z3,_⟩:=AU l [] hwa hga w3 w1 rfl;have v5:=ML l (acc:=[]) w3 w4;have ahX:=AW l (acc:=[]) hwa (fun p hp=>by cases hp);have loop:∀(n i:Nat) (r:StateT) (acc:List aW),i+n=l.length→dN r→j5 (l.drop i) r=(w,(0,()))→acc.length≤5*i→oy (l.drop i) r acc=oy l t [] → LX G 12 xX Tryz.f12 yl (aS Tryz.prog 12 0) ((true,((i:Int),())),(((t,()),((r,()),())),(l,(acc,()))))=some ((true,()),()):=by
   intro n
   induction n with
   |zero =>intro i r acc hi hr Ho ha hv;rw[List.drop_eq_nil_of_le (by omega)]at hv Ho;have hv:acc=oy l t []:=hv;have N6:r=w:=congrArg Prod.fst Ho;refine aw PD (ag (decide_eq_false (show ¬((i:Int)<((l.length:Nat):Int)) by omega)) ?_);rw[N6,hv];refine aa (ahA hG JK w (oy l t []) w1 (by rw[v5];simp;omega) fun o ho=>QC (ahX o ho)) ?_;rw[z3];refine aa (alj hG z.1 t.1 z1.d.sm) ?_;rw[decide_eq_true z2];refine af rfl (af rfl (af rfl ?_));refine congrArg (fun b:Bool=>some ((b,()),())) (show((((oy l t []).length:Nat):Int)==((l.length:Nat):Int))=true by rw[v5];simp)
   |succ n ih =>
    intro i r acc hi hr Ho ha hv;have aG:i<l.length:=by omega
    have hm:=acm aG;rw[List.drop_eq_getElem_cons aG]at Ho hv;have hg0:(j5 (l[i]::l.drop (i+1)) r).2.1=0:=by rw[Ho]
    obtain⟨g1,g2,g3⟩:=go_step hg0
    rw[g3]at Ho;have hx:(l[Int.toNat (i:Int)]?)=some l[i]:=aa4 (show Int.toNat (i:Int)<l.length from aG);have hfi:=QC (ZM _ hm);refine aw PD (af (ba aG) (af (dp (decide_eq_true (show(0:Int)≤(i:Int) by omega)) (ba aG)) (aa hx ?_)));refine aa (Xn hG JK r l[i] hr hfi) (af (dp (decide_eq_true (show(0:Int)≤(i:Int) by omega)) (ba aG)) (aa hx ?_));have hrn:=hr.n;refine aa (af6 hG r l[i] hr.d.bd (by omega) (by omega) hfi.t) ?_;refine ag (show((bT r l[i]).2.1 != 0)=false by simp[g1]) ?_;have hp:=FM hr l[i];refine af (fits (show 0+(mR r l[i]).length≤_ by omega)) (af (fits (show(mR r l[i]).length+acc.length≤_ by omega)) ?_);rw[wI,aI aG (by omega)];exact ih (i+1) _ (mR r l[i]++acc) (by omega) (hr.one l[i]) Ho (by rw[List.length_append];omega) hv
  exact loop l.length 0 t [] (by omega) hwa w3 (by simp) rfl
theorem ac1(s:StateT)(e:List aW)(_:PQ mr s)(hw:PQ He e)(hb:cF mr s+cF He e≤1048576):FX GP 12 xX ((s,e,()),())=some ((true,()),()):=by obtain⟨h1,h2,h3,h4,h5⟩:=Mw (s:=s) (m:=1048576) (by omega);have ht:=SM (e:=e) (m:=1048576) (by omega);exact ZP hgP ahh s e ⟨by omega,by omega,fun v hv=>by have:=(h4 v hv).1;omega⟩ (by omega) (fun v hv=>by have:=(h4 v hv).2;omega) (fun e he=>by have:=h5 e he;omega) fun o ho=>acR (hw o ho) (by have:=ht o ho;unfold Ak;omega)
end Go.Vs
