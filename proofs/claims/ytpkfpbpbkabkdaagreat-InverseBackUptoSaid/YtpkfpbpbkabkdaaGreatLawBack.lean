/- InverseBack answers true -/
import Derived.Test.YtpkfpbpbkabkdaaGreatAgain
set_option linter.unusedVariables false
set_option linter.unusedSimpArgs false
namespace Go.Vs
open Go.Proofs
variable {G:(f:FuncId)→(g:aX)→Option (g.A→Option g.B)}
theorem Xm{o:aW}(h:bm o=0)(hk:o.1=3):pO (oA o)=true∧pO (oB o)=true:=by
 unfold bm at h
 split at h;· cases h
 split at h;· cases h
 split at h;· cases h
 split at h;· cases h
 split at h
 ·assumption
 ·cases h
theorem Qq{c:ml}(h:pO c=true):ER c.2.2:=by
 unfold pO Ja at h;simp only[Bool.and_eq_true,Bool.or_eq_true,decide_eq_true_eq]at h;unfold ER;rcases h.2 with h|h
 ·omega
 ·rw[h];exact⟨by decide,by decide⟩
theorem MG:e0.size≤100000000:=by simp[e0,ByteArray.size]
theorem ZF{o:aW}(h:bm o=0):Fit o:=by
 have hr:=MA h;obtain⟨k1,k8⟩:=ky h;have h3:=Xm h;have h5:=mZ h;have h8:=E3 h;have h7:=Au h;obtain⟨k,x,nw,ot,a,b,oe,t,n⟩:=o;simp only at k1 k8 h3 h5 h8 h7;have fin:ER a.2.2→ER b.2.2→ER n→t.size≤100000000→Fit (k,x,nw,ot,a,b,oe,t,n):=fun p q r u=>⟨p,q,r,u⟩;have z:∀c:ml,c=zC→ER c.2.2:=fun c e=>by subst e;exact sD
 unfold km at hr;by_cases c3:k=3
 ·subst c3;simp only[if_true,FP,Prod.mk.injEq,true_and]at hr;obtain⟨rfl,rfl,rfl,rfl,rfl⟩:=hr;obtain⟨p,q⟩:=h3 rfl;exact fin (Qq p) (Qq q) sD MG
 by_cases c5:k=5
 ·subst c5;simp only[show ¬(5:Int)=3 by decide,if_false,if_true,FP,Prod.mk.injEq,true_and,and_true]at hr;obtain⟨rfl,rfl,rfl,rfl⟩:=hr;obtain⟨_,_,p,q⟩:=h5 rfl;exact fin sD sD (by show ER n;have p:0≤n:=p;have q:n≤3:=q;unfold ER;omega) MG
 by_cases c6:k=6
 ·subst c6;simp only[show ¬(6:Int)=3 by decide,show ¬(6:Int)=5 by decide,if_false,if_true,FP,Prod.mk.injEq,true_and]at hr;obtain⟨rfl,rfl,rfl,rfl,rfl,rfl⟩:=hr;exact fin sD sD sD MG
 by_cases c7:k=7
 ·subst c7;simp only[show ¬(7:Int)=3 by decide,show ¬(7:Int)=5 by decide,show ¬(7:Int)=6 by decide,if_false,if_true,FP,Prod.mk.injEq,true_and]at hr;obtain⟨rfl,rfl,rfl,rfl,rfl⟩:=hr;have:=RZ (h7 rfl);exact fin sD sD sD (by have:t.size≤16:=this;omega)
 by_cases c8:k=8
 ·subst c8;simp only[show ¬(8:Int)=3 by decide,show ¬(8:Int)=5 by decide,show ¬(8:Int)=6 by decide,show ¬(8:Int)=7 by decide,if_false,if_true,FP,Prod.mk.injEq,true_and,and_true]at hr;obtain⟨rfl,rfl,rfl,rfl,rfl⟩:=hr;exact fin sD sD (YP (h8 rfl)) MG
 ·simp only[if_neg c3,if_neg c5,if_neg c6,if_neg c7,if_neg c8,FP,Prod.mk.injEq,true_and]at hr;obtain⟨rfl,rfl,rfl,rfl,rfl,rfl,rfl⟩:=hr;exact fin sD sD sD MG
theorem Xn{s:StateT}(hw:dU s)(o:aW):∀p∈tR s o,bm p=0:=by
 unfold tR
 split
 ·intro p hp;cases hp
 ·rename_i h;exact(Ql hw (by simpa using h)).1
theorem Sy{e:List aW}{m:Nat}(hb:cF G5 e≤m):∀o∈e,o.2.2.2.2.2.2.2.1.size≤m:=fun o ho=>by have h1:cF G5 e=(e.map (cF kE)).sum+1:=rfl;rw[h1]at hb;have h3:=CA (cF kE) ho;have h4:=RG o;omega
theorem H5:∀(l:List aW) {s:StateT} {acc:List aW},dU s→(∀p∈acc,bm p=0)→∀p∈yO l s acc,bm p=0
 |[],_,_,_,h=>h
 |o::r,s,acc,hs,h=>H5 r (hs.one o) fun p hp=>(abG.1 hp).elim (Xn hs o p) (h p)
theorem H6:∀(l:List aW) {s:StateT} {acc:List aW},dU s→(yO l s acc).length≤acc.length+5*l.length
 |[],_,_,_=>by simp[yO]
 |o::r,s,acc,hs=>by have h1:=H6 r (acc:=tR s o++acc) (hs.one o);have h2:=MC hs o;rw[List.length_append]at h1;show(yO r (bZ s o).1 (tR s o++acc)).length≤_;rw[List.length_cons];omega
theorem ZG{s:StateT}{l:List aW}(hs:dU s)(hg:bY s.1=0)(h0:(cS s l).2.1=0){u:StateT}(hu:dU u)(e:u.1=(cS s l).1.1) :
  ∃w,dU w∧w.1=s.1∧lC (yO l s []) u=(w,(0,()))∧FJ (yO l s []) u:=by
 have ha:=ov h0;rw[ha]at h0 e;obtain⟨w,q1,q2,q3,q4⟩:=H4 l [] hs hg (show lC l s=((lC l s).1,(0,())) from Prod.ext rfl (Prod.ext h0 rfl)) hu e;exact⟨w,q1,q2,q3,q4 trivial⟩
theorem ZH(hG:HG G)(J0:∀o,pQ G o)(s:StateT)(e:List aW)(hs:Sm s.1)(hg:s.2.length≤50000000)(tv:∀v∈s.1.1,v.2.2.1.size≤100000000)(te:∀e∈s.1.2,e.2.1.size≤100000000)(hf:∀o∈e,Fit o):FX G 11 Hd ((s,e,()),())=some ((true,()),()):=by
 refine aB (hG _ _ rfl) ae6 ?_;refine aa (aho hG J0) ?_;obtain⟨b,k1,k2⟩:=ahn hG s hs hg tv te;refine aa k1 ?_
 cases b with
 |false=>rfl
 |true =>
  obtain⟨hw,anB⟩:=k2 rfl;have hn:=hw.n;refine ag rfl (aa (ahp hG e) ?_);have hlen:(e.take 8).length≤8:=by simp;omega
  have hfk:∀o∈e.take 8,Fit o:=fun o ho=>hf o (adB ho);generalize e.take 8=p at *;refine aa (ahq hG J0 s p hw hlen hfk) ?_;have hbs:Bs 1000 s:=⟨hw.d.bd.mono (by omega),by omega⟩;refine aa (als hG s p hbs (by omega) fun o ho=>(hfk o ho).t) ?_;unfold ofR;by_cases h0:(cS s p).2.1=0
  case neg =>
   rw[if_pos h0];exact ag (show((cS s p).2.1 != (cS s p).2.1)=false by simp) (af (show((cS s p).2.1 != 0)=true by simp[h0]) (af rfl rfl))
  rw[if_neg (by simp[h0])];refine ag (show((0:Int) != (cS s p).2.1)=false by simp[h0]) (ag rfl ?_);have hwa:=hw.apply p;obtain⟨w,w1,w2,w3,_⟩:=ZG hw anB h0 hwa rfl;have Bo:=H6 p (acc:=[]) hw;have ZD:=H5 p (acc:=[]) hw (fun p hp=>by cases hp);refine aa (ahr hG J0 (cS s p).1 (yO p s []) hwa (by simp at Bo;omega) fun o ho=>ZF (ZD o ho)) ?_;rw[w3];refine aa (ak7 hG w.1 s.1 w1.d.sm) ?_;rw[decide_eq_true w2];exact af rfl (af rfl rfl)
theorem acU(s:StateT)(e:List aW)(_:PD mF s)(hw:PD G5 e)(hb:cF mF s+cF G5 e≤1048576):FX GP 11 Hd ((s,e,()),())=some ((true,()),()):=by obtain⟨h1,h2,h3,h4,h5⟩:=Mq (s:=s) (m:=1048576) (by omega);have ht:=Sy (e:=e) (m:=1048576) (by omega);exact ZH hgP ag8 s e ⟨by omega,by omega,fun v hv=>by have:=(h4 v hv).1;omega⟩ (by omega) (fun v hv=>by have:=(h4 v hv).2;omega) (fun e he=>by have:=h5 e he;omega) fun o ho=>acK (hw o ho) (by have:=ht o ho;unfold Ah;omega)
end Go.Vs
