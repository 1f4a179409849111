/- Edges cut and split -/
import Derived.Test.YtoleelddkocpkaaGreatFormed
import Derived.Test.YtoleelddkocpkaaGreatTop
set_option linter.unusedVariables false
set_option linter.unusedSimpArgs false
namespace Go.Vs
open Go.Proofs
variable {G:(f:FuncId)→(g:aP)→Option (g.A→Option g.B)}
theorem aaD(hG:HG G)(v:aB)(x:ae):FX G 219 GK ((v,x,()),())=some ((pC v.1 x,()),()):=by refine av (hG _ _ rfl) aeT ?_;exact aa (aaz hG v.1 x) rfl
def eC(l:List aB)(x:ae):Nat:=l.countP fun v=>mf v.1 x
theorem I5(l:List aB)(x:ae):eC l x≤l.length:=adk
theorem zM{l:List aB}{x:ae}(h:∀v∈l,mf v.1 x=false):eC l x=0:=by
 grind [eC,List.countP_eq_zero]
theorem Hf{x:ae}:∀{l:List aB},jC l→∀(k:Nat) (v:aB),l[k]? = some v→(mf v.1 x=true↔k<eC l x)
 |[],_,k,v,h=>by simp at h
 |w::r,hs,k,v,h=>by
  have hw:∀{u:aB},u∈r→mf w.1 u.1=true:=fun {u} hu=>acZ hs hu;have hr:jC r:=hs.of_cons;by_cases aH:mf w.1 x=true
  ·have e:eC (w::r) x=eC r x+1:=by grind [eC,List.countP_cons_of_pos]
   cases k with
   |zero=>simp_all
   |succ k=>have:=Hf (x:=x) hr k v (by simpa using h);simp_all
  ·have hn:∀u∈w::r,mf u.1 x=false:=fun u hu=>by
    rcases abL.1 hu with rfl|hu
    ·simp_all
    ·rw[Bool.eq_false_iff];grind [jA]
   grind [zM,List.mem_of_getElem?]
theorem VJ(hG:HG G)(l:List aB)(x:ae)(hs:jC l)(hl:l.length≤50000000):∀(n i j:Nat),j-i≤n→i≤eC l x→eC l x≤j→j≤l.length → LX G 220218 jO Tryz.f218 jq (aF Tryz.prog 218 0) ((l,(((l.length:Nat):Int),((i:Int),((j:Int),())))),(((x,()),()),()))=some (((((eC l x:Nat):Int),(decide ((l[eC l x]?).map (·.1)=some x),())):Int×(Bool×Unit)),()):=by
 have uR:=I5 l x;have fin:∀(i j:Nat),¬(i<j)→i≤eC l x→eC l x≤j→LX G 220218 jO Tryz.f218 jq (aF Tryz.prog 218 0) ((l,(((l.length:Nat):Int),((i:Int),((j:Int),())))),(((x,()),()),()))=some (((((eC l x:Nat):Int),(decide ((l[eC l x]?).map (·.1)=some x),())):Int×(Bool×Unit)),()):=fun i j E9 h1 h2=>by
  have hi:i=eC l x:=by omega
  subst hi;refine ar DP ?_;refine ag (decide_eq_false (show ¬(((eC l x:Nat):Int)<(j:Int)) by omega)) ?_;by_cases hc:eC l x<l.length
  ·have hx:l[eC l x]? = some l[eC l x]:=aby hc;refine af (aN hc) ?_;refine aa (aw hx) ?_;refine aa (aaD hG l[eC l x] x) ?_;refine congrArg (fun b:Bool=>some ((((eC l x:Nat):Int),(b,())),())) ?_
   grind [pC,eC]
  ·refine ag (decide_eq_false (show ¬(((eC l x:Nat):Int)<((l.length:Nat):Int)) by omega)) ?_;refine congrArg (fun b:Bool=>some ((((eC l x:Nat):Int),(b,())),())) ?_;simp_all
 intro n
 induction n with
 |zero=>grind
 |succ n ih =>
  intro i j E9 h1 h2 h3;by_cases aH:i<j
  case neg=>grind
  refine ar DP ?_;refine af (decide_eq_true (show((i:Int)<(j:Int)) by omega)) ?_;refine ag rfl ?_;have hm:=Nk (i:=i) (j:=j) (by omega) (by omega);have hh:(i+j) / 2<l.length:=by omega
  have hx:l[(i+j) / 2]? = some l[(i+j) / 2]:=aby hh;have qy:=Hf (x:=x) hs ((i+j) / 2) _ hx;refine aa (show aR l (IntKind.wrap .i64 (gy .u64 (IntKind.wrap .u64 (IntKind.wrap .i64 ((i:Int)+(j:Int)))) (1:Int)))=some l[(i+j) / 2] by rw[hm];exact aw hx) ?_;refine aa (aaD hG l[(i+j) / 2] x) ?_;by_cases ho:mf l[(i+j) / 2].1 x=true
  ·refine af (decide_eq_true ((BT _ _).2 ho)) ?_;have hc:=qy.1 ho;have hw:IntKind.wrap .i64 (IntKind.wrap .i64 (gy .u64 (IntKind.wrap .u64 (IntKind.wrap .i64 ((i:Int)+(j:Int)))) (1:Int))+1)=(((i+j) / 2+1:Nat):Int):=by rw[hm];exact aA hh (by omega)
   have:=ih ((i+j) / 2+1) j (by omega) (by omega) h2 h3;rw[←hw]at this;exact this
  ·refine ag (decide_eq_false (fun h=>ho ((BT _ _).1 h))) ?_;have hc:¬(i+j) / 2<eC l x:=fun h=>ho (qy.2 h);have:=ih i ((i+j) / 2) (by omega) h1 (by omega) (by omega);rw[←hm]at this;exact this
theorem VL(hG:HG G)(l:List aB)(x:ae)(hs:jC l)(hl:l.length≤50000000) :
  FX G 220218 jO ((l,x,()),())=some (((((eC l x:Nat):Int),(decide ((l[eC l x]?).map (·.1)=some x),())):Int×(Bool×Unit)),()):=by
 refine av (hG _ _ rfl) UW ?_;exact VJ hG l x hs hl l.length 0 l.length (by omega) (by omega) (I5 l x) (acW _)
theorem Lv(g:aB):∀{l:List aB},jC l→lX g l=if(l[eC l g.1]?).map (·.1)=some g.1 then l.set (eC l g.1) g else l.take (eC l g.1)++(g::l.drop (eC l g.1))
 |[],_=>rfl
 |w::r,hs=>by
  have hw:∀{u:aB},u∈r→mf w.1 u.1=true:=fun {u} hu=>acZ hs hu;have hr:jC r:=adT hs;by_cases aH:mf w.1 g.1=true
  ·have e:eC (w::r) g.1=eC r g.1+1:=by grind [eC,List.countP_cons_of_pos]
   have bw:w.1≠g.1:=fun k=>by grind [eJ]
   have vB:¬pC g.1 w.1≤0:=fun k=>by
    grind [qS,jA,eJ]
   have ih:=Lv g hr;rw[e,lX,if_neg vB,if_pos bw,ih]
   grind
  ·have hn:∀u∈w::r,mf u.1 g.1=false:=fun u hu=>by
    rcases abL.1 hu with rfl|hu
    ·simp_all
    ·rw[Bool.eq_false_iff];grind [jA]
   rw[zM hn];by_cases he:w.1=g.1
   ·have alX:pC g.1 w.1≤0:=qS.2 (.inl he.symm);have h1:ov g (w::r)=r:=by
     have:ov g (w::r)=ov g r:=by grind [ov,List.filter_cons_of_neg]
     grind [uy,eJ]
    simp_all [lX,if_pos]
   ·have Ol:mf g.1 w.1=true:=zH (by simp_all) he;have alX:pC g.1 w.1≤0:=qS.2 (.inr Ol);have h1:ov g (w::r)=w::r:=uy (fun q hq k=>by
     grind)
    simp_all [lX,if_pos,if_neg]
theorem Hg{x:ae}:∀{l:List aB},jC l→(g8 l x).isSome=decide ((l[eC l x]?).map (·.1)=some x)
 |[],_=>rfl
 |w::r,hs=>by
  have hw:∀{u:aB},u∈r→mf w.1 u.1=true:=fun {u} hu=>acZ hs hu;have hr:jC r:=adT hs;rw[qT];by_cases aH:mf w.1 x=true
  ·have e:eC (w::r) x=eC r x+1:=by grind [eC,List.countP_cons_of_pos]
   have bw:w.1≠x:=fun k=>by grind [eJ]
   rw[e,if_neg bw,Hg hr,List.getElem?_cons_succ]
  ·have hn:∀u∈w::r,mf u.1 x=false:=fun u hu=>by
    rcases abL.1 hu with rfl|hu
    ·simp_all
    ·rw[Bool.eq_false_iff];grind [jA]
   rw[zM hn];by_cases he:w.1=x
   ·simp[he]
   ·have Ol:mf x w.1=true:=zH (by simp_all) he;have:g8 r x=none:=by
     grind [g8,List.find?,decide,List.find?_eq_none,jA,eJ]
    simp_all
theorem aga(hG:HG G)(l:List aB)(g:aB)(hs:jC l)(hl:l.length≤50000000):FX G 199 KJ ((l,g,()),())=some ((bS l g,()),()):=by
 refine av (hG _ _ rfl) aeK ?_;refine aa (VL hG l g.1 hs hl) ?_;refine aa (abZ (hG _ _ rfl) l hl) ?_;unfold bS;rw[Hg hs,Lv g hs];have hc:eC l g.1≤l.length:=I5 l g.1;by_cases h:(l[eC l g.1]?).map (·.1)=some g.1
 ·rw[decide_eq_true h,if_neg (fun k=>by cases k.1),if_pos h];refine af rfl ?_;obtain⟨u,hu,_⟩:∃u,l[eC l g.1]? = some u∧u.1=g.1:=by simp_all
  have aH:=(abJ.1 hu).1;refine af (cd (fq _) (aN aH)) ?_;exact aa hu rfl
 ·rw[decide_eq_false h,if_neg h];refine ag rfl ?_;by_cases h4:400≤l.length
  ·rw[if_pos ⟨rfl,h4⟩];exact ag (decide_eq_false (show ¬((l.length:Nat):Int)<400 by omega)) rfl
  ·rw[if_neg (fun k=>h4 k.2)];refine af (decide_eq_true (show((l.length:Nat):Int)<400 by omega)) ?_;have kM:rT l ((eC l g.1:Nat):Int) [g]=true:=by
    grind [rT,decide_eq_true,eC,fits]
   refine af kM ?_;rfl
theorem Hh(hG:HG G)(w:aW)(x to:ae)(hs:jC w.2.2.1)(hl:w.2.2.1.length≤50000000):FX G 160 Dc ((x,to,()),(w,()))=some ((),((w.1,(w.2.1,(bS w.2.2.1 (x,to),()))),())):=by refine av (hG _ _ rfl) aet ?_;exact aa (aga hG w.2.2.1 (x,to) hs hl) rfl
theorem Hi(hG:HG G)(w:aW)(x:ae)(hw:Rw w.1)(hl:w.1.length≤50000000)(hr:∀v∈w.1,v.2.1.length≤50000000){k:Nat}{v:ai}(hk:w.1[k]? = some v)(hx:x∈v.2.1) :
  FX G 162 mN ((x,()),(w,()))=some (((some ((⟨0,by decide⟩:Fin 1),k)),()),(w,())):=by
 refine av (hG _ _ rfl) aev ?_;have Xs:=(abJ.1 hk).1;have loop:∀(n i:Nat),i+n=k→LX G 162 mN Tryz.f162 xl (aF Tryz.prog 162 0) ((((w.1.length:Nat):Int),((i:Int),())),((w,((x,()),())),()))=some (((some ((⟨0,by decide⟩:Fin 1),k)),()),(w,())):=by
  intro n
  induction n with
  |zero =>
   intro i hi;have hi:i=k:=by omega
   subst hi;refine ar OF ?_;refine af (aN Xs) (af (cd (fq _) (aN Xs)) (aa hk ?_));refine aa (G7 hG v.2.1 x (by grind)) ?_;exact af (decide_eq_true hx) rfl
  |succ n ih =>
   intro i hi;have o8:i<w.1.length:=by omega
   have hu:w.1[i]? = some w.1[i]:=aby o8;have QS:x∉w.1[i].2.1:=fun hxi=>by have h1:w.1[i]=v:=hw.one (acC hk) (acv o8) hx hxi;have h2:=kA hw.s hk rfl;have h3:=kA hw.s (x:=v.1) hu (by rw[h1]);omega
   refine ar OF ?_;refine af (aN o8) (af (cd (fq _) (aN o8)) (aa hu ?_));refine aa (G7 hG w.1[i].2.1 x (by grind)) ?_;refine ag (decide_eq_false QS) ?_;have:=ih (i+1) (by omega);rw[←aA o8 (by omega)]at this;exact this
 exact loop k 0 (by omega)
theorem Np{l:List ai}{k:Nat}{v:ai}(hs:bZ l)(hk:l[k]? = some v)(r:List ae):l.set k (v.1,(r,v.2.2))=l.map (uf v.1 r):=by
 have h:=jV hs (acC hk);rw[kA hs hk rfl];refine(Lo hs h (uf v.1 r) (fun u=>(u.1,(r,u.2.2))) (fun u hu=>?_) (fun u hu=>?_)).symm
 ·unfold uf;rw[if_pos hu]
 simp_all [uf,if_neg]
theorem sP{l:List ai}{x:ae}(h:x∈aq l):∃(k:Nat) (v:ai),l[k]? = some v∧x∈v.2.1∧v∈l:=by obtain⟨v,hv,hx⟩:=aU.1 h;obtain⟨k,hk,he⟩:=adv hv;exact⟨k,v,by simp_all,hx,hv⟩
structure Sv(l:List ai):Prop where
 n:l.length≤50000000
 r:∀v∈l,v.2.1.length≤50000000
theorem VM{n:Int}(h:n=0∨n=1):fj .xor .i64 n 1=IntKind.wrap .i64 (1-n):=by rcases h with rfl|rfl<;>decide
theorem Lw(hG:G 166 pj=none)(x:ae)(h:x.2=0∨x.2=1):FX G 166 pj ((x,()),())=some ((aj x,()),()):=by refine av hG aey ?_;exact congrArg (fun n:Int=>some ((((x.1,n):ae),()),())) (VM h)
theorem Hj{d:an}(h:Rw d.1){v:ai}{x:ae}(hv:v∈d.1)(hx:x∈v.2.1):dh d x=if(jz v.2.1 x).1=x.1 then(if(jz v.2.1 (jz v.2.1 x)).1=x.1 then zD else jz v.2.1 (jz v.2.1 x)) else jz v.2.1 x:=by
 unfold dh;have e:bI d ((cg d x).getD zI)=v.2.1:=by unfold cg;rw[eL h hv hx];exact kD h.s hv
 grind
theorem aaE(hG:HG G)(w:aW)(x:ae)(hw:Rw w.1)(hs:Sv w.1)(hx:x∈aq w.1)(e:List ak):FX G 161 Dd ((x,()),(w,()))=some ((dh (w.1,e) x,()),(w,())):=by
 obtain⟨k,v,hk,oG,hv⟩:=sP hx;have Oq:=hs.r v hv;refine av (hG _ _ rfl) aeu ?_;rw[Hj (d:=(w.1,e)) hw hv oG];have prev:∀y:ae,FX G 200 GI ((v.2.1,y,()),())=some (((jz v.2.1 y),((Le (dw v.2.1 y (v.2.1.length-1))).2)),()):=fun y=>by
  grind [af8,trans,Le,dw,jz,BQ]
 have gN:∀y:ae,((y.1.1==x.1.1)&&(y.1.2==x.1.2))=decide (y.1=x.1):=fun y=>j5 y.1 x.1;refine ar IB ?_;refine af rfl (aa (Hi hG w x hw hs.n hs.r hk oG) ?_);refine vl rfl (af rfl (aa hk ?_));refine aa (prev x) ?_;by_cases h1:(jz v.2.1 x).1=x.1
 ·rw[if_pos h1];refine aV ((gN _).trans (decide_eq_true h1)) ?_;refine ar IB ?_;refine af rfl (aa (Hi hG w x hw hs.n hs.r hk oG) ?_);refine vl rfl (af rfl (aa hk ?_));refine aa (prev (jz v.2.1 x)) ?_;by_cases h2:(jz v.2.1 (jz v.2.1 x)).1=x.1
  ·rw[if_pos h2];refine aV ((gN _).trans (decide_eq_true h2)) ?_;refine ar IB ?_;rfl
  ·rw[if_neg h2];exact aV ((gN _).trans (decide_eq_false h2)) rfl
 ·rw[if_neg h1];exact aV ((gN _).trans (decide_eq_false h1)) rfl
theorem Lx{l:List ak}{x:ID}(hs:dp l)(h:(aY l x).isSome=true)(hl:l.length≤50000000) :
  j8 l ((cx l x:Nat):Int) (IntKind.wrap .i64 (((cx l x:Nat):Int)+1))=true∧dA l ((cx l x:Nat):Int) (IntKind.wrap .i64 (((cx l x:Nat):Int)+1))=c6 l x:=by
 grind [Option.isSome_iff_exists,List.getElem?_eq_some_iff,nh,IntKind.wrap,cx,aA,j8,decide_eq_true,fits,zF,dA,Int.toNat_natCast]
theorem VN{l:List ai}{x:ID}(hs:bZ l)(h:(aT l x).isSome=true)(hl:l.length≤50000000) :
  j8 l ((bT l x:Nat):Int) (IntKind.wrap .i64 (((bT l x:Nat):Int)+1))=true∧dA l ((bT l x:Nat):Int) (IntKind.wrap .i64 (((bT l x:Nat):Int)+1))=cV l x:=by
 grind [Option.isSome_iff_exists,List.getElem?_eq_some_iff,di,IntKind.wrap,bT,aA,j8,decide_eq_true,fits,zy,dA,Int.toNat_natCast]
theorem Sv.re{l:List ai}(h:Sv l)(x:ID){r:List ae}(hr:r.length≤50000000):Sv (l.map (uf x r)):=by
 refine⟨by simp;exact h.n,fun w hw=>?_⟩;obtain⟨u,hu,rfl⟩:=acU.1 hw;unfold uf
 split
 ·exact hr
 ·exact h.r u hu
theorem Ei{row:List ae}(d:ae):(iL row d).length≤row.length:=by
 grind [iL,jy,List.length_filter_le]
theorem Pf{w:aW}{x:ae}(hw:Rw w.1){k:Nat}{v:ai}(hk:w.1[k]? = some v)(hx:x∈v.2.1)(e:List ak):w.1.set k (v.1,(iL v.2.1 x,v.2.2))=(aJ (w.1,e) x).1:=by rw[kE (d:=(w.1,e)) hw (List.mem_of_getElem? hk) hx];exact Np hw.s hk _
theorem alY(hG:HG G)(s:StateT)(o:bj)(h:dy s)(hs:Sv s.1.1) :
  ∃(e:Int) (w:aW),FX G 115 C9 ((o,()),(aQ s,()))=some ((e,()),(w,()))∧jU e w=D3 s o:=by
 have bw:=h.d.ne;unfold D3
 cases hf:(aY s.1.2 (bh o)).isSome with
 |false =>
  refine⟨13,aQ s,?_,?_⟩
  ·refine av (hG _ _ rfl) aee ?_;refine aa (pO hG (aQ s) (bh o) h.d.se (by show s.1.2.length≤_;omega)) ?_;exact aV ((dr (l:=s.1.2) h.d.se).trans hf) rfl
  ·rw[if_pos (show(gN s.1 (bh o)).isSome=false from hf)];rfl
 |true =>
  rw[if_neg (show ¬(gN s.1 (bh o)).isSome=false by show ¬(aY s.1.2 (bh o)).isSome=false;rw[hf];simp)];obtain⟨x,hx⟩:∃x:ae,x=(bh o,0):=⟨_,rfl⟩;obtain⟨y,hy⟩:∃y:ae,y=(bh o,1):=⟨_,rfl⟩;have hxd:x∈aq s.1.1:=by rw[hx];exact h.d.kH hf (.inl rfl)
  have hyd:y∈aq s.1.1:=by rw[hy];exact h.d.kH hf (.inr rfl)
  have g1:=kG h.g h.n (x,dh s.1 x);have hn:=h.n;obtain⟨p1,q1⟩:=fN h.d.rw hxd;have al0:y∈aq (aJ s.1 x).1:=by
   grind
  have Pe:=kF (kF h.d.gv x) y;refine⟨0,((aJ (aJ s.1 x) y).1,(c6 s.1.2 (bh o),(bS (bS s.2 (x,dh s.1 x)) (y,dh s.1 y),()))),?_,?_⟩
  ·refine av (hG _ _ rfl) aee ?_;refine aa (pO hG (aQ s) (bh o) h.d.se (by show s.1.2.length≤_;omega)) ?_;refine aV ((dr (l:=s.1.2) h.d.se).trans hf) (ag rfl ?_);have al1:FX G 156 Da ((bh o,()),())=some ((x,y,()),()):=by rw[hx,hy];exact av (hG _ _ rfl) aag rfl
   refine aa al1 ?_;refine ar M1 ?_;refine af rfl (af rfl (aa (a:=x) rfl ?_));refine aa (aaE hG (aQ s) x h.d.rw hs hxd s.1.2) ?_;refine aa (Hh hG (aQ s) x (dh s.1 x) h.g (by show s.2.length≤_;omega)) ?_;refine ar M1 ?_;refine af rfl (af rfl (aa (a:=y) rfl ?_));refine aa (aaE hG (s.1.1,(s.1.2,(bS s.2 (x,dh s.1 x),()))) y h.d.rw hs hyd s.1.2) ?_;refine aa (Hh hG (s.1.1,(s.1.2,(bS s.2 (x,dh s.1 x),()))) y (dh s.1 y) g1.1 (by grind)) ?_;refine ar M1 ?_;refine ag rfl ?_;generalize bS (bS s.2 (x,dh s.1 x)) (y,dh s.1 y)=gg;obtain⟨k,v,hk,oG,hv⟩:=sP hxd;refine ar M3 ?_;refine af rfl (af rfl (aa (a:=x) rfl ?_));refine aa (Hi hG (s.1.1,(s.1.2,(gg,()))) x h.d.rw hs.n hs.r hk oG) ?_;refine vl rfl (af rfl (aa hk ?_));refine aa (aaB hG v.2.1 x (h.d.rw.ring hv) (hs.r v hv)) ?_;refine aa hk ?_;have e1:s.1.1.set k (v.1,(iL v.2.1 x,v.2.2))=(aJ s.1 x).1:=Pf (w:=(s.1.1,(s.1.2,(gg,())))) h.d.rw hk oG s.1.2;have Mg:Sv (aJ s.1 x).1:=by rw[kE h.d.rw hv oG];exact hs.re _ (acY (Ei x) (hs.r v hv))
   obtain⟨k2,v2,oW,XK,Bu⟩:=sP al0;have e2:(aJ s.1 x).1.set k2 (v2.1,(iL v2.2.1 y,v2.2.2))=(aJ (aJ s.1 x) y).1:=Pf (w:=((aJ s.1 x).1,(s.1.2,(gg,())))) q1 oW XK (aJ s.1 x).2;have rest:∀a:List ai,a=(aJ s.1 x).1→LX G 115 C9 Tryz.f115 zn (aF Tryz.prog 115 1) ((((cx s.1.2 (bh o):Nat):Int),((2:Int),((1:Int),()))),(((a,(s.1.2,(gg,()))),()),([x,y],())))=some (((0:Int),()),(((aJ (aJ s.1 x) y).1,(c6 s.1.2 (bh o),(gg,()))),())):=by
    intro a ha;subst ha;refine ar M3 ?_;refine af rfl (af rfl (aa (a:=y) rfl ?_));refine aa (Hi hG ((aJ s.1 x).1,(s.1.2,(gg,()))) y q1 Mg.n Mg.r oW XK) ?_;refine vl rfl (af rfl (aa oW ?_));refine aa (aaB hG v2.2.1 y (q1.ring Bu) (Mg.r v2 Bu)) ?_;refine aa oW ?_;have last:∀b:List ai,b=(aJ (aJ s.1 x) y).1→LX G 115 C9 Tryz.f115 zn (aF Tryz.prog 115 1) ((((cx s.1.2 (bh o):Nat):Int),((2:Int),((2:Int),()))),(((b,(s.1.2,(gg,()))),()),([x,y],())))=some (((0:Int),()),(((aJ (aJ s.1 x) y).1,(c6 s.1.2 (bh o),(gg,()))),())):=by intro b hb;subst hb;refine ar M3 ?_;obtain⟨d1,d2⟩:=Lx h.d.se hf (by omega);refine ag rfl (af d1 ?_);exact congrArg (fun l:List ak=>some (((0:Int),()),(((aJ (aJ s.1 x) y).1,(l,(gg,()))),()))) d2
    exact last _ e2
   exact rest _ e1
  ·rw[←hx,←hy];unfold aO;rw[uq Pe];rfl
theorem Nq{n:Int}(h0:0≤n)(h3:n≤3):fj .xor .i64 1 (fj .and .i64 n 1)=IntKind.wrap .i64 (1-Int.tmod n 2)∧gy .i64 n 1=IntKind.wrap .i64 (Int.tdiv n 2):=by
 have:n=0∨n=1∨n=2∨n=3:=by omega
 rcases this with rfl|rfl|rfl|rfl<;>exact⟨by decide,by decide⟩
theorem Ly{l:List ai}{x:ae}(hw:Rw l){k:Nat}{v:ai}(hk:l[k]? = some v)(hx:x∈v.2.1)(y:ae)(e:List ak):l.set k (v.1,(fm v.2.1 x y,v.2.2))=(aE (l,e) x y).1:=by rw[qP (d:=(l,e)) hw y (List.mem_of_getElem? hk) hx];exact Np hw.s hk _
theorem al2(hG:HG G)(s:StateT)(o:bj)(h:dy s)(hs:Sv s.1.1)(hm:cE o=0)(hk5:o.1=5) :
    ∃(e:Int) (w:aW),FX G 116 Bh ((o,()),(aQ s,()))=some ((e,()),(w,()))∧jU e w=kz s o:=by
  have bw:=h.d.ne;have Mu:=h.d.nv;obtain⟨m1,m2,m3,m4⟩:=zL hm hk5;obtain⟨s1,s2⟩:=Eh m3 m4;obtain⟨c1,c2⟩:=Nq m3 m4;have key:∀(e:Int) (w:aW),FX G 116 Bh ((o,()),(aQ s,()))=some ((e,()),(w,()))→jU e w=kz s o→∃(e:Int) (w:aW),FX G 116 Bh ((o,()),(aQ s,()))=some ((e,()),(w,()))∧jU e w=kz s o:=fun e w a b=>⟨e,w,a,b⟩;have start:∀(e:Int) (w:aW),bC 116 Bh Tryz.f116 (FX G) (LX G 116 Bh Tryz.f116) ((o,()),(aQ s,()))=some ((e,()),(w,()))→FX G 116 Bh ((o,()),(aQ s,()))=some ((e,()),(w,())):=fun e w a =>av (hG _ _ rfl) a rfl;unfold kz
  cases hf:(aY s.1.2 (bh o)).isSome with
  |false =>
    refine⟨13,aQ s,start _ _ ((Yo).trans ?_),?_⟩
    · refine aa (pO hG (aQ s) (bh o) h.d.se (by show s.1.2.length≤_;omega)) ?_
      refine aa (rp hG (aQ s) (fi o) h.d.sv (by show s.1.1.length≤_;omega)) ?_;refine aa (pO hG (aQ s) (bB o) h.d.se (by show s.1.2.length≤_;omega)) ?_;exact aV ((dr (l:=s.1.2) h.d.se).trans hf) rfl
    · rw[if_pos (show(gN s.1 (bh o)).isSome=false from hf)];rfl
  |true =>
  rw[if_neg (show ¬(gN s.1 (bh o)).isSome=false by show ¬(aY s.1.2 (bh o)).isSome=false;rw[hf];simp)]
  cases ZK:(aT s.1.1 (fi o)).isSome with
  |true =>
    refine⟨12,aQ s,start _ _ ((Yo).trans ?_),?_⟩
    · refine aa (pO hG (aQ s) (bh o) h.d.se (by show s.1.2.length≤_;omega)) ?_
      refine aa (rp hG (aQ s) (fi o) h.d.sv (by show s.1.1.length≤_;omega)) ?_;refine aa (pO hG (aQ s) (bB o) h.d.se (by show s.1.2.length≤_;omega)) ?_;refine aV ((dr (l:=s.1.2) h.d.se).trans hf) (ag rfl ?_);exact af ((gh (l:=s.1.1) h.d.sv).trans ZK) rfl
    · rw[if_pos (show(br s.1 (fi o)).isSome=true from ZK)];rfl
  |false =>
  rw[if_neg (show ¬(br s.1 (fi o)).isSome=true by show ¬(aT s.1.1 (fi o)).isSome=true;rw[ZK];simp)]
  cases hfo:(aY s.1.2 (bB o)).isSome with
  |true =>
    refine⟨12,aQ s,start _ _ ((Yo).trans ?_),?_⟩
    · refine aa (pO hG (aQ s) (bh o) h.d.se (by show s.1.2.length≤_;omega)) ?_
      refine aa (rp hG (aQ s) (fi o) h.d.sv (by show s.1.1.length≤_;omega)) ?_;refine aa (pO hG (aQ s) (bB o) h.d.se (by show s.1.2.length≤_;omega)) ?_;refine aV ((dr (l:=s.1.2) h.d.se).trans hf) (ag rfl ?_);refine ag ((gh (l:=s.1.1) h.d.sv).trans ZK) ?_;exact af ((dr (l:=s.1.2) h.d.se).trans hfo) rfl
    · rw[if_pos (show(gN s.1 (bB o)).isSome=true from hfo)];rfl
  |false =>
  rw[if_neg (show ¬(gN s.1 (bB o)).isSome=true by show ¬(aY s.1.2 (bB o)).isSome=true;rw[hfo];simp)];have aqg:aT s.1.1 (fi o)=none:=by simp_all
  have al3:aY s.1.2 (bB o)=none:=by simp_all
  obtain⟨m,hmm⟩:∃m:ae,m=Ll o:=⟨_,rfl⟩;obtain⟨kk,X5⟩:∃m:ae,m=G4 o:=⟨_,rfl⟩;have Jx:m∈aq s.1.1:=by rw[hmm];exact h.d.kH hf s1
  have Jw:aj kk∉aq s.1.1:=by rw[X5];exact h.d.uz al3 _
  obtain⟨p1,q1⟩:=jW h.d.rw Jx Jw;have oW:kk.2=0∨kk.2=1:=by rw[X5];exact s2
  obtain⟨k,v,hk,oG,hv⟩:=sP Jx;have e1:s.1.1.set k (v.1,(fm v.2.1 m (aj kk),v.2.2))=(aE s.1 m (aj kk)).1:=Ly h.d.rw hk oG _ s.1.2;have hlen:(aE s.1 m (aj kk)).1.length=s.1.1.length:=by grind
  have af9:aT (aE s.1 m (aj kk)).1 (fi o)=none:=by
    grind [aE,Vs.cp,pN,sN]
  have eM:((bh o,fj .xor .i64 1 (fj .and .i64 (oN o) 1)):ae)=m:=by rw[hmm,c1];rfl
  have eK:((bB o,gy .i64 (oN o) 1):ae)=kk:=by rw[X5,c2];rfl
  have go:∀(e:Int) (w:aW),(∀a:List ai,a=(aE s.1 m (aj kk)).1→((FX G 112 Kz (((fi o,(cc [m,kk],(e0,(0:Int)))),()),((a,(s.1.2,(s.2,()))),()))).bind fun(lO:((Int×Unit)×(aW×Unit))) =>cond (lO.1.1 != (0:Int)) (some (lO.1,((lO.2.1.1,(lO.2.1.2.1,lO.2.1.2.2)),()))) ((FX G 155 AE ((bB o,()),((lO.2.1.1,(lO.2.1.2.1,lO.2.1.2.2)),()))).bind fun(oF:((Int×Unit)×(aW×Unit))) =>some (oF.1,((oF.2.1.1,(oF.2.1.2.1,oF.2.1.2.2)),()))))=some ((e,()),(w,())))→FX G 116 Bh ((o,()),(aQ s,()))=some ((e,()),(w,())):=fun e w rest=>by
    refine start _ _ ((Yo).trans ?_);refine aa (pO hG (aQ s) (bh o) h.d.se (by show s.1.2.length≤_;omega)) ?_;refine aa (rp hG (aQ s) (fi o) h.d.sv (by show s.1.1.length≤_;omega)) ?_;refine aa (pO hG (aQ s) (bB o) h.d.se (by show s.1.2.length≤_;omega)) ?_;refine aV ((dr (l:=s.1.2) h.d.se).trans hf) (ag rfl ?_);refine ag ((gh (l:=s.1.1) h.d.sv).trans ZK) ?_;refine ag ((dr (l:=s.1.2) h.d.se).trans hfo) ?_;refine ag rfl ?_;have body:∀mm k2:ae,mm=m→k2=kk→((FX G 162 mN ((mm,()),(aQ s,()))).bind fun(y4:(((Option ((Fin 1)×Nat))×Unit)×(aW×Unit))) =>rS y4.1.1 (none) fun(p5:((Fin 1)×Nat)) =>cond (p5.1.val==0) (((y4.2.1.1)[p5.2]?).bind fun(y6:ai) =>(FX G 166 pj ((k2,()),())).bind fun(y7:((ae×Unit)×Unit)) =>(FX G 165 ve ((y6.2.1,(mm,((y7.1.1.1,y7.1.1.2),()))),())).bind fun(y8:(((List ae)×Unit)×Unit)) =>((y4.2.1.1)[p5.2]?).bind fun(y9:ai) =>(FX G 167 rl (([mm,k2],()),())).bind fun(oE:(((List ae)×Unit)×Unit)) =>(FX G 112 Kz (((fi o,(oE.1.1,((⟨#[]⟩:ByteArray),(0:Int)))),()),(((List.set y4.2.1.1 p5.2 (y9.1,(y8.1.1,y9.2.2))),(y4.2.1.2.1,y4.2.1.2.2)),()))).bind fun(lO:((Int×Unit)×(aW×Unit))) =>cond (lO.1.1 != (0:Int)) (some (lO.1,((lO.2.1.1,(lO.2.1.2.1,lO.2.1.2.2)),()))) ((FX G 155 AE ((bB o,()),((lO.2.1.1,(lO.2.1.2.1,lO.2.1.2.2)),()))).bind fun(oF:((Int×Unit)×(aW×Unit))) =>some (oF.1,((oF.2.1.1,(oF.2.1.2.1,oF.2.1.2.2)),())))) (none))=some ((e,()),(w,())):=by intro mm k2 al4 al5;subst al4 al5;refine aa (Hi hG (aQ s) mm h.d.rw hs.n hs.r hk oG) ?_;refine vl rfl (af rfl (aa hk ?_));refine aa (Lw (hG _ _ rfl) k2 oW) ?_;refine aa (aaC hG v.2.1 mm (aj k2) (hs.r v hv)) ?_;refine aa hk ?_;refine aa (Eb hG [mm,k2] (by simp)) ?_;exact rest _ e1
    exact body _ _ eM eK
  have aqh:24≤s.1.1.length→rq ((aE s.1 m (aj kk)).1,(s.1.2,(s.2,()))) (fi o,(cc [m,kk],(e0,0)))=(3,((aE s.1 m (aj kk)).1,(s.1.2,(s.2,())))):=fun hb=>by
    unfold rq
    grind
  have ab4:¬24≤s.1.1.length→rq ((aE s.1 m (aj kk)).1,(s.1.2,(s.2,()))) (fi o,(cc [m,kk],(e0,0)))=(0,(cW (fi o,(cc [m,kk],(e0,0))) (aE s.1 m (aj kk)).1,(s.1.2,(s.2,())))):=fun hb=>by
    unfold rq
    grind
  by_cases hb:24≤s.1.1.length
  · refine⟨3,((aE s.1 m (aj kk)).1,(s.1.2,(s.2,()))),go _ _ (fun a ha=>?_),?_⟩
    · subst ha
      refine aa (ab0 hG ((aE s.1 m (aj kk)).1,(s.1.2,(s.2,()))) (fi o,(cc [m,kk],(e0,0))) q1.s (by grind)) ?_
      grind
    · rw[if_pos hb];rfl
  rw[if_neg hb];have hE:vm (cW (fi o,(cc [m,kk],(e0,0))) (aE s.1 m (aj kk)).1,(s.1.2,(s.2,()))) (bB o)=if 40≤s.1.2.length then(3,(cW (fi o,(cc [m,kk],(e0,0))) (aE s.1 m (aj kk)).1,(s.1.2,(s.2,())))) else(0,(cW (fi o,(cc [m,kk],(e0,0))) (aE s.1 m (aj kk)).1,(dB (bB o,(e0,0)) s.1.2,(s.2,())))):=by
    unfold vm
    grind
  have fin:FX G 116 Bh ((o,()),(aQ s,()))=some (((vm (cW (fi o,(cc [m,kk],(e0,0))) (aE s.1 m (aj kk)).1,(s.1.2,(s.2,()))) (bB o)).1,()),((vm (cW (fi o,(cc [m,kk],(e0,0))) (aE s.1 m (aj kk)).1,(s.1.2,(s.2,()))) (bB o)).2,())):=by refine go _ _ (fun a ha=>?_);subst ha;refine aa (ab0 hG ((aE s.1 m (aj kk)).1,(s.1.2,(s.2,()))) (fi o,(cc [m,kk],(e0,0))) q1.s (by grind)) ?_;rw[ab4 hb];refine ag rfl ?_;exact aa (aay hG (cW (fi o,(cc [m,kk],(e0,0))) (aE s.1 m (aj kk)).1,(s.1.2,(s.2,()))) (bB o) h.d.se (by grind)) rfl
  rw[hE]at fin;by_cases hb4:40≤s.1.2.length
  · rw[if_pos hb4]at fin ⊢
    exact⟨_,_,fin,rfl⟩
  · rw[if_neg hb4]at fin ⊢
    refine⟨_,_,fin,?_⟩;rw[hmm,X5];rfl
theorem al6(hG:HG G)(s:StateT)(o:bj)(h:dy s)(hs:Sv s.1.1) :
    ∃(e:Int) (w:aW),FX G 117 sw ((o,()),(aQ s,()))=some ((e,()),(w,()))∧jU e w=jT s o:=by
  have bw:=h.d.ne;have Mu:=h.d.nv;have hgn:=h.n;have start:∀(e:Int) (w:aW),bC 117 sw Tryz.f117 (FX G) (LX G 117 sw Tryz.f117) ((o,()),(aQ s,()))=some ((e,()),(w,()))→FX G 117 sw ((o,()),(aQ s,()))=some ((e,()),(w,())):=fun e w a =>av (hG _ _ rfl) a rfl;unfold jT
  cases hf:aT s.1.1 (bh o) with
  |none =>
    refine⟨13,aQ s,start _ _ ((aef).trans ?_),?_⟩
    · refine aa (rp hG (aQ s) (bh o) h.d.sv (by show s.1.1.length≤_;omega)) ?_
      exact aV ((gh (l:=s.1.1) h.d.sv).trans (by rw[hf])) rfl
    · rw[show br s.1 (bh o)=none from hf];rfl
  |some v =>
  have hfs:(aT s.1.1 (bh o)).isSome=true:=by rw[hf];rfl
  have hv:=ed hf;have hvi:=iQ hf;have wG:=di h.d.sv hf;have aH:=(abJ.1 wG).1;have hgr:=h.d.rw;have go:∀(e:Int) (w:aW),(cond ((((List.length v.2.1):Nat):Int) != (2:Int)) (some (((14:Int),()),(aQ s,()))) _=some ((e,()),(w,())))→FX G 117 sw ((o,()),(aQ s,()))=some ((e,()),(w,())):=fun e w rest=>by refine start _ _ ((aef).trans ?_);refine aa (rp hG (aQ s) (bh o) h.d.sv (by show s.1.1.length≤_;omega)) ?_;refine aV ((gh (l:=s.1.1) h.d.sv).trans hfs) (ag rfl ?_);refine af (cd (fq _) (aN aH)) (aa wG ?_);exact rest
  rw[show br s.1 (bh o)=some v from hf];by_cases Ah:v.2.1.length=2
  case neg =>
    refine⟨14,aQ s,go _ _ (af (by grind) rfl),?_⟩;show jU 14 (aQ s)=(match v.2.1 with | [r0,r1]=>iZ s o r0 r1|_=>(zS,(14,())))
    split
    · grind
    · rfl
  obtain⟨r0,r1,hr⟩:∃r0 r1,v.2.1=[r0,r1]:=by
    match hq:v.2.1,Ah with
    |[a,b],_=>grind
  have GD:(((List.length v.2.1:Nat):Int) != (2:Int))=false:=by rw[Ah];rfl
  have g0:aR v.2.1 (0:Int)=some r0:=by rw[hr];rfl
  have g1:aR v.2.1 (1:Int)=some r1:=by rw[hr];rfl
  show ∃(e:Int) (w:aW),FX G 117 sw ((o,()),(aQ s,()))=some ((e,()),(w,()))∧jU e w=(match v.2.1 with | [r0,r1]=>iZ s o r0 r1|_=>(zS,(14,())));rw[hr];show ∃(e:Int) (w:aW),FX G 117 sw ((o,()),(aQ s,()))=some ((e,()),(w,()))∧jU e w=iZ s o r0 r1;unfold iZ;by_cases h01:r0.1=r1.1
  · refine⟨14,aQ s,go _ _ (ag GD (aa g0 (aa g1 (af ((j5 r0.1 r1.1).trans (decide_eq_true h01)) rfl)))),?_⟩
    rw[if_pos h01];rfl
  rw[if_neg h01];have b01:=(j5 r0.1 r1.1).trans (decide_eq_false h01);have tail:∀a b:ae,v.2.1.Perm [a,b]→a.1≠b.1→((FX G 166 pj ((b,()),())).bind fun(y7:((ae×Unit)×Unit)) =>cond (j8 s.1.1 ((bT s.1.1 (bh o):Nat):Int) (IntKind.wrap .i64 (((bT s.1.1 (bh o):Nat):Int)+(1:Int)))) ((FX G 162 mN (((y7.1.1.1,y7.1.1.2),()),(((dA s.1.1 ((bT s.1.1 (bh o):Nat):Int) (IntKind.wrap .i64 (((bT s.1.1 (bh o):Nat):Int)+(1:Int)))),(s.1.2,(s.2,()))),()))).bind fun(y8:(((Option ((Fin 1)×Nat))×Unit)×(aW×Unit))) =>rS y8.1.1 (none) fun(p9:((Fin 1)×Nat)) =>cond (p9.1.val==0) (((y8.2.1.1)[p9.2]?).bind fun(oE:ai) =>(FX G 165 ve ((oE.2.1,((y7.1.1.1,y7.1.1.2),(a,()))),())).bind fun(lO:(((List ae)×Unit)×Unit)) =>((y8.2.1.1)[p9.2]?).bind fun(oF:ai) =>(FX G 159 nQ ((b.1,()),(((List.set y8.2.1.1 p9.2 (oF.1,(lO.1.1,oF.2.2))),(y8.2.1.2.1,y8.2.1.2.2)),()))).bind fun(lD:((Int×(Bool×Unit))×(aW×Unit))) =>cond (j8 lD.2.1.2.1 lD.1.1 (IntKind.wrap .i64 (lD.1.1+(1:Int)))) (LX G 117 sw Tryz.f117 ot (aF Tryz.prog 117 0) (((0:Int),()),(((lD.2.1.1,((dA lD.2.1.2.1 lD.1.1 (IntKind.wrap .i64 (lD.1.1+(1:Int)))),lD.2.1.2.2)),((a,()),((b,()),(((y7.1.1.1,y7.1.1.2),()),())))),()))) (none)) (none)) (none))=some (((0:Int),()),(((JA s o a b).1,((JA s o a b).2,(Jz s.2 a b,()))),())):=by
    intro a b hp rm;obtain⟨p,q,h1,_,h2,_⟩:=nj h.d.sv hv;have pd:(aq s.1.1).Perm (a::b::aq (p++q)):=by
      have:=(jB p q v).trans (ade _ hp)
      grind
    have Pg:cV s.1.1 (bh o)=p++q:=by grind
    have RL:aO s.1 (bh o) zI=(p++q,s.1.2):=by unfold aO;rw[Pg,qR h.d.ge]
    have Fe:=pd.nodup_iff.1 hgr.n;have hbm:b∈ends s.1.2:=h.d.pd.mem_iff.1 (pd.mem_iff.2 (by simp));obtain⟨e,he,he1,Bx⟩:=c7.1 hbm;have CX:(aY s.1.2 b.1).isSome=true:=by unfold aY;grind
    obtain⟨_,ho⟩:=gX Bx;have RM:aj b∈aq (p++q):=by
      have h3:aj b∈aq s.1.1:=h.d.kH (s:=(aj b).2) CX (by omega);rcases abL.1 (pd.mem_iff.1 h3) with k|k
      · grind
      rcases abL.1 k with k|k
      · have:=congrArg Prod.snd k;omega
      · exact k
    have I4:Rw (p++q):=⟨by rw[←h2];exact ng h.d.sv,(acg.1 (acg.1 Fe).2).2⟩;have bz:∀u∈p++q,u∈s.1.1:=fun u hu=>by
      grind
    have Mg:Sv (p++q):=⟨by
      grind,fun u hu=>hs.r u (bz u hu)⟩
    obtain⟨dk1,dk2⟩:=VN h.d.sv hfs (by omega);rw[Pg]at dk2;obtain⟨k,u,hk,hxu,hu⟩:=sP RM;have e1:(p++q).set k (u.1,(fm u.2.1 (aj b) a,u.2.2))=(aE (p++q,s.1.2) (aj b) a).1:=Ly I4 hk hxu _ s.1.2;have Pe:∀w∈(aE (p++q,s.1.2) (aj b) a).1,GV w:=qQ (d:=(p++q,s.1.2)) (fun w hw=>h.d.gv w (bz w hw)) _ _;have eD:JA s o a b=((aE (p++q,s.1.2) (aj b) a).1,c6 s.1.2 b.1):=by unfold JA;rw[RL];unfold aO;rw[uq Pe];rfl
    have ga:=kG h.g h.n ((b.1,0),ow a b 0);rw[eD];refine aa (Lw (hG _ _ rfl) b Bx) ?_;refine af dk1 ?_;have r1:∀l1:List ai,l1=p++q→((FX G 162 mN ((aj b,()),((l1,(s.1.2,(s.2,()))),()))).bind fun(y8:(((Option ((Fin 1)×Nat))×Unit)×(aW×Unit))) =>rS y8.1.1 (none) fun(p9:((Fin 1)×Nat)) =>cond (p9.1.val==0) (((y8.2.1.1)[p9.2]?).bind fun(oE:ai) =>(FX G 165 ve ((oE.2.1,(aj b,(a,()))),())).bind fun(lO:(((List ae)×Unit)×Unit)) =>((y8.2.1.1)[p9.2]?).bind fun(oF:ai) =>(FX G 159 nQ ((b.1,()),(((List.set y8.2.1.1 p9.2 (oF.1,(lO.1.1,oF.2.2))),(y8.2.1.2.1,y8.2.1.2.2)),()))).bind fun(lD:((Int×(Bool×Unit))×(aW×Unit))) =>cond (j8 lD.2.1.2.1 lD.1.1 (IntKind.wrap .i64 (lD.1.1+(1:Int)))) (LX G 117 sw Tryz.f117 ot (aF Tryz.prog 117 0) (((0:Int),()),(((lD.2.1.1,((dA lD.2.1.2.1 lD.1.1 (IntKind.wrap .i64 (lD.1.1+(1:Int)))),lD.2.1.2.2)),((a,()),((b,()),((aj b,()),())))),()))) (none)) (none))=some (((0:Int),()),(((aE (p++q,s.1.2) (aj b) a).1,(c6 s.1.2 b.1,(Jz s.2 a b,()))),())):=by
      intro l1 hl1;subst hl1;refine aa (Hi hG (p++q,(s.1.2,(s.2,()))) (aj b) I4 Mg.n Mg.r hk hxu) ?_;refine vl rfl (af rfl (aa hk ?_));refine aa (aaC hG u.2.1 (aj b) a (Mg.r u hu)) ?_;refine aa hk ?_;have r2:∀l2:List ai,l2=(aE (p++q,s.1.2) (aj b) a).1→((FX G 159 nQ ((b.1,()),((l2,(s.1.2,(s.2,()))),()))).bind fun(lD:((Int×(Bool×Unit))×(aW×Unit))) =>cond (j8 lD.2.1.2.1 lD.1.1 (IntKind.wrap .i64 (lD.1.1+(1:Int)))) (LX G 117 sw Tryz.f117 ot (aF Tryz.prog 117 0) (((0:Int),()),(((lD.2.1.1,((dA lD.2.1.2.1 lD.1.1 (IntKind.wrap .i64 (lD.1.1+(1:Int)))),lD.2.1.2.2)),((a,()),((b,()),((aj b,()),())))),()))) (none))=some (((0:Int),()),(((aE (p++q,s.1.2) (aj b) a).1,(c6 s.1.2 b.1,(Jz s.2 a b,()))),())):=by
        intro l2 Ah;subst Ah;refine aa (pO hG ((aE (p++q,s.1.2) (aj b) a).1,(s.1.2,(s.2,()))) b.1 h.d.se (by grind)) ?_;obtain⟨ek1,ek2⟩:=Lx h.d.se CX (by omega);refine af ek1 ?_;have r3:∀l3:List ak,l3=c6 s.1.2 b.1→(LX G 117 sw Tryz.f117 ot (aF Tryz.prog 117 0) (((0:Int),()),((((aE (p++q,s.1.2) (aj b) a).1,(l3,(s.2,()))),((a,()),((b,()),((aj b,()),())))),())))=some (((0:Int),()),(((aE (p++q,s.1.2) (aj b) a).1,(c6 s.1.2 b.1,(Jz s.2 a b,()))),())):=by
          intro l3 hl3;subst hl3;have eb:b=(b.1,b.2):=rfl;have eo:aj b=(b.1,(aj b).2):=rfl;rcases ho with⟨Mi,XA⟩|⟨Sw,XY⟩
          · rw[Mi]at eb;rw[XA]at eo
            have t0:ow a b 0=zD:=by unfold ow;rw[if_neg (by rw[eo];simp)]
            have t1:ow a b 1=a:=by unfold ow;grind
            rw[t0,←eb]at ga;have eG:Jz s.2 a b=bS (bS s.2 (b,zD)) (aj b,a):=by grind [Jz]
            rw[eG];refine ar zq ?_;refine af rfl (af (by grind) ?_);refine aa (Hh hG ((aE (p++q,s.1.2) (aj b) a).1,(c6 s.1.2 b.1,(s.2,()))) b zD h.g (by grind)) ?_;refine ar zq ?_;refine af rfl (ag (by show(b.2==(1:Int))=false;simp[Mi]) ?_);refine aa (Hh hG ((aE (p++q,s.1.2) (aj b) a).1,(c6 s.1.2 b.1,(bS s.2 (b,zD),()))) (aj b) a ga.1 (by grind)) ?_;refine ar zq ?_;rfl
          · rw[Sw]at eb;rw[XY]at eo
            have t0:ow a b 0=a:=by unfold ow;grind
            have t1:ow a b 1=zD:=by unfold ow;rw[if_neg (by rw[eo];simp)]
            rw[t0,←eo]at ga;have eG:Jz s.2 a b=bS (bS s.2 (aj b,a)) (b,zD):=by grind [Jz]
            rw[eG];refine ar zq ?_;refine af rfl (ag (by grind) ?_);refine aa (Hh hG ((aE (p++q,s.1.2) (aj b) a).1,(c6 s.1.2 b.1,(s.2,()))) (aj b) a h.g (by grind)) ?_;refine ar zq ?_;refine af rfl (af (by show(b.2==(1:Int))=true;simp[Sw]) ?_);refine aa (Hh hG ((aE (p++q,s.1.2) (aj b) a).1,(c6 s.1.2 b.1,(bS s.2 (aj b,a),()))) b zD ga.1 (by grind)) ?_;refine ar zq ?_;rfl
        exact r3 _ ek2
      exact r2 _ e1
    exact r1 _ dk2
  have bo:∀y:ae,((y.1.1==(bB o).1)&&(y.1.2==(bB o).2))=decide (y.1=bB o):=fun y=>j5 y.1 (bB o);by_cases h0:r0.1=bB o
  · rw[if_pos h0]
    refine⟨0,((JA s o r1 r0).1,((JA s o r1 r0).2,(Jz s.2 r1 r0,()))),go _ _ (ag GD (aa g0 (aa g1 (ag b01 (aa g0 (aa g1 (af ((bo r0).trans (decide_eq_true h0)) ?_))))))),rfl⟩;refine aV ((bo r0).trans (decide_eq_true h0)) (ag rfl ?_);exact tail r1 r0 (by rw[hr];exact List.Perm.swap _ _ _) (fun k=>h01 k.symm)
  rw[if_neg h0];by_cases h1:r1.1=bB o
  · rw[if_pos h1]
    refine⟨0,((JA s o r0 r1).1,((JA s o r0 r1).2,(Jz s.2 r0 r1,()))),go _ _ (ag GD (aa g0 (aa g1 (ag b01 (aa g0 (aa g1 (ag ((bo r0).trans (decide_eq_false h0)) ?_))))))),rfl⟩;refine aV ((bo r1).trans (decide_eq_true h1)) (ag rfl ?_);exact tail r0 r1 (by rw[hr]) h01
  rw[if_neg h1];refine⟨14,aQ s,go _ _ (ag GD (aa g0 (aa g1 (ag b01 (aa g0 (aa g1 (ag ((bo r0).trans (decide_eq_false h0)) ?_))))))),rfl⟩;exact aV ((bo r1).trans (decide_eq_false h1)) (af rfl rfl)
end Go.Vs
namespace Go.Vs
open Go.Proofs
theorem Hk{row:List ae}(hn:row.Nodup){i j:Nat}{hi:i<row.length}{hj:j<row.length}(h:row[i]=row[j]):i=j:=by
 grind [Nat.lt_trichotomy,absurd,List.pairwise_iff_getElem]
theorem zN{row:List ae}(hn:row.Nodup){i j:Nat}{x:ae}(hi:row[i]? = some x)(hj:row[j]? = some x):i=j:=by
 grind [List.getElem?_eq_some_iff,Hk]
theorem AX(row:List ae):∃j,j≤row.length∧cc row=E1 row j:=by
 by_cases h0:row.length=0
 ·have:row=[]:=by simpa using h0
  subst this;exact⟨0,by simp,rfl⟩
 ·exact⟨fM row row 0 0,Nat.le_of_lt (nS row row 0 0 (by omega) (by omega)),rfl⟩
theorem RN{row:List ae}(hn:row.Nodup){k:Nat}{m y:ae}(hk:row[k]? = some m)(hy:y∉row):(row.set k y).Nodup:=by
 grind
theorem YJ{row:List ae}(hn:row.Nodup){k:Nat}{x:ae}(hk:row[k]? = some x):idx x row 0=(k:Int):=by
 grind [Nm,zN]
theorem VO(m k:ae):cc [m,k]=[m,k]∨cc [m,k]=[k,m]:=by
 have hm:=nS [m,k] [m,k] 0 0 (by simp) (by simp);have:fM [m,k] [m,k] 0 0=0∨fM [m,k] [m,k] 0 0=1:=by grind
 unfold cc;rcases this with h|h<;>rw[h]
 ·exact .inl rfl
 ·exact .inr rfl
end Go.Vs
namespace Go.Vs
open Go.Proofs
variable {G:(f:FuncId)→(g:aP)→Option (g.A→Option g.B)}
theorem RO(l:List ai)(x:ID):l.any (fun w=>decide (w.1=x))=(aT l x).isSome:=by rw[Bool.eq_iff_iff,List.any_eq_true];unfold aT;simp_all
theorem RP(l:List ak)(x:ID):l.any (fun w=>decide (w.1=x))=(aY l x).isSome:=by rw[Bool.eq_iff_iff,List.any_eq_true];unfold aY;simp_all
theorem RQ(s:StateT)(o:bj):jU (wc (aQ s) o).1 (wc (aQ s) o).2=v7 s o:=by
 unfold wc v7 Lj IW;rw[RO,RP];by_cases ho:qN o=true
 ·have hv:s.1.1.map (iO o)=s.1.1:=by
   conv=>rhs;rw[←List.map_id s.1.1]
   exact List.map_congr_left fun u hu=>by simp_all [iO,if_neg]
  rw[if_pos ho,ho,hv];show jU (if(aY s.1.2 (bh o)).isSome=true then _ else _:Int×aW).1 (if(aY s.1.2 (bh o)).isSome=true then _ else _:Int×aW).2=_
  cases (aY s.1.2 (bh o)).isSome<;>rfl
 ·have rK:qN o=false:=by simpa using ho
  have he:s.1.2.map (jR o)=s.1.2:=by
   conv=>rhs;rw[←List.map_id s.1.2]
   exact List.map_congr_left fun u hu=>by simp_all [jR,if_neg]
  rw[if_neg ho,rK,he];show jU (if(aT s.1.1 (bh o)).isSome=true then _ else _:Int×aW).1 (if(aT s.1.1 (bh o)).isSome=true then _ else _:Int×aW).2=_
  cases (aT s.1.1 (bh o)).isSome<;>rfl
theorem VP(hG:HG G)(w:aW)(o:bj)(hk:7≤o.1)(hv:bZ w.1)(he:dp w.2.1)(Sx:w.1.length≤50000000)(hle:w.2.1.length≤50000000) :
  FX G 85 It ((o,()),(w,()))=some (((wc w o).1,()),((wc w o).2,())):=by
 refine av (hG _ _ rfl) M0 ?_;have kn:∀k:Int,k<7→(o.1==k)=false:=fun k oW=>AU (by omega);refine ag (kn 1 (by omega)) (ag (kn 2 (by omega)) (ag (kn 3 (by omega)) (ag (kn 4 (by omega)) (ag (kn 5 (by omega)) (ag (kn 6 (by omega)) ?_)))));exact aa (alU hG w o hv he Sx hle) rfl
def opL(x:ID)(e:Bool)(t:ByteArray):bj:=(7,(x,(zI,(zI,(zC,(zC,(e,(t,0))))))))
def opA(x:ID)(e:Bool)(n:Int):bj:=(8,(x,(zI,(zI,(zC,(zC,(e,(e0,n))))))))
theorem zO{t:ByteArray}(h:iM t=true):t.size≤16:=by simp_all [iM,Bool.and_eq_true,decide_eq_true_eq]
theorem ab5:RB 0:=by unfold RB;omega
theorem LA{l:List ai}(hs:bZ l){v w:ai}(hv:v∈l)(hw:w∈l)(h:w.1=v.1):w=v:=by
 have h1:=jV hs hv
 grind [jV,Option.some.inj]
structure Lay(s t:StateT):Prop where
 v:bZ t.1.1
 e:dp t.1.2
 sm:Sm t.1
 g:t.2.length≤50000000
theorem AY(l:List ak):(ends l).length=2*l.length:=by
 induction l with
 |nil=>rfl
 |cons e r ih=>grind [gi]
theorem YK{l:List ai}{v:ai}(h:v∈l):v.2.1.length≤(aq l).length:=by
 obtain⟨a,b,rfl⟩:=ac7 h
 grind [kC,dR]
theorem Wf.sQ{d:an}(h:Wf d):∀v∈d.1,v.2.1.length≤80:=fun v hv=>by
 have h1:=YK hv;have h2:=h.pd.length_eq;have h3:=h.ne
 grind [AY]
theorem Wf.sm{d:an}(h:Wf d):Sm d:=⟨by have:=h.nv;omega,by have:=h.ne;omega,fun v hv=>by have:=h.sQ v hv;omega⟩
theorem Wf.small{d:an}(h:Wf d):Sv d.1:=⟨by have:=h.nv;omega,fun v hv=>by have:=h.sQ v hv;omega⟩
theorem RR(s:StateT)(o:bj):jU (rq (aQ s) (bh o,([],(e0,0)))).1 (rq (aQ s) (bh o,([],(e0,0)))).2=nV s o:=by
 by_cases hh:(aT s.1.1 (bh o)).isSome=true
 ·have a:rq (aQ s) (bh o,([],(e0,0)))=(12,aQ s):=if_pos hh;have b:nV s o=(zS,(12,())):=if_pos hh;rw[a,b];rfl
 by_cases h:24≤s.1.1.length
 ·have a:rq (aQ s) (bh o,([],(e0,0)))=(3,aQ s):=(if_neg hh).trans (if_pos h);have b:nV s o=(zS,(3,())):=(if_neg hh).trans (if_pos h);rw[a,b];rfl
 ·have a:rq (aQ s) (bh o,([],(e0,0)))=(0,(cW (bh o,([],(e0,0))) (aQ s).1,(aQ s).2)):=(if_neg hh).trans (if_neg h);have b:nV s o=(((cW (bh o,([],(e0,0))) s.1.1,s.1.2),s.2),(0,())):=(if_neg hh).trans (if_neg h);rw[a,b];rfl
theorem RS{s:StateT}(h:dy s)(o:bj):jU (G5 (aQ s) (bh o)).1 (G5 (aQ s) (bh o)).2=vj s o:=by
 unfold G5 vj br;show jU (match aT s.1.1 (bh o) with|none=>(13,aQ s)|some v=>if 0<v.2.1.length then(14,aQ s) else(0,(cV s.1.1 (bh o),(s.1.2,(s.2,())))):Int×aW).1 (match aT s.1.1 (bh o) with|none=>(13,aQ s)|some v=>if 0<v.2.1.length then(14,aQ s) else(0,(cV s.1.1 (bh o),(s.1.2,(s.2,())))):Int×aW).2=_
 cases aT s.1.1 (bh o) with
 |none=>rfl
 |some v =>
  simp only;by_cases hl:0<v.2.1.length
  ·rw[if_pos hl,if_pos hl];rfl
  ·rw[if_neg hl,if_neg hl];unfold aO;rw[qR h.d.ge];rfl
def Ph(s:StateT)(o:bj):StateT×(Int×Unit) :=if o.1=1 then nV s o else if o.1=2 then vj s o else if o.1=3 then nT s o else if o.1=4 then D3 s o else if o.1=5 then kz s o else if o.1=6 then jT s o else v7 s o
theorem RT(s:StateT)(o:bj):j6 s o=if cE o≠0 then(zS,(cE o,())) else Ph s o:=rfl
theorem VQ(hG:HG G)(s:StateT)(o:bj)(h:dy s)(hm:cE o=0)(h3:o.1=3→∃(e:Int) (w:aW),FX G 114 qD ((o,()),(aQ s,()))=some ((e,()),(w,()))∧jU e w=nT s o) :
  ∃(e:Int) (w:aW),FX G 85 It ((o,()),(aQ s,()))=some ((e,()),(w,()))∧jU e w=Ph s o:=by
 have hk:=Eg hm;have YL:=h.d.small;have Mu:=h.d.nv;have bw:=h.d.ne;have start:∀(e:Int) (w:aW),bC 85 It Tryz.f85 (FX G) (LX G 85 It Tryz.f85) ((o,()),(aQ s,()))=some ((e,()),(w,()))→FX G 85 It ((o,()),(aQ s,()))=some ((e,()),(w,())):=fun e w a =>av (hG _ _ rfl) a rfl;unfold Ph;by_cases h1:o.1=1
 ·rw[if_pos h1];refine⟨_,_,start _ _ ((M0).trans (af (JB h1) (aa (ab0 hG (aQ s) (bh o,([],(e0,0))) h.d.sv YL.n) rfl))),?_⟩;exact RR s o
 rw[if_neg h1];by_cases h2:o.1=2
 ·rw[if_pos h2];refine⟨_,_,start _ _ ((M0).trans (ag (AU h1) (af (JB h2) (aa (alO hG (aQ s) o h.d.sv YL.n) rfl)))),?_⟩;exact RS h o
 rw[if_neg h2];by_cases Sy:o.1=3
 ·rw[if_pos Sy];obtain⟨e,w,a,b⟩:=h3 Sy;exact⟨e,w,start _ _ ((M0).trans (ag (AU h1) (ag (AU h2) (af (JB Sy) (aa a rfl))))),b⟩
 rw[if_neg Sy];by_cases hk4:o.1=4
 ·rw[if_pos hk4];obtain⟨e,w,a,b⟩:=alY hG s o h YL;exact⟨e,w,start _ _ ((M0).trans (ag (AU h1) (ag (AU h2) (ag (AU Sy) (af (JB hk4) (aa a rfl)))))),b⟩
 rw[if_neg hk4];by_cases hk5:o.1=5
 ·rw[if_pos hk5];obtain⟨e,w,a,b⟩:=al2 hG s o h YL hm hk5;exact⟨e,w,start _ _ ((M0).trans (ag (AU h1) (ag (AU h2) (ag (AU Sy) (ag (AU hk4) (af (JB hk5) (aa a rfl))))))),b⟩
 rw[if_neg hk5];by_cases hk6:o.1=6
 ·rw[if_pos hk6];obtain⟨e,w,a,b⟩:=al6 hG s o h YL;exact⟨e,w,start _ _ ((M0).trans (ag (AU h1) (ag (AU h2) (ag (AU Sy) (ag (AU hk4) (ag (AU hk5) (af (JB hk6) (aa a rfl)))))))),b⟩
 rw[if_neg hk6];refine⟨_,_,VP hG (aQ s) o (by omega) h.d.sv h.d.se YL.n (by show s.1.2.length≤_;omega),?_⟩;exact RQ s o
def fg(G:(f:FuncId)→(g:aP)→Option (g.A→Option g.B))(o:bj):Prop:=∀s,dy s→cE o=0→o.1=3→∃(e:Int) (w:aW),FX G 114 qD ((o,()),(aQ s,()))=some ((e,()),(w,()))∧jU e w=nT s o
theorem VR{s:StateT}{o:bj}(hm:cE o=0):Ph s o=j6 s o:=by simp_all [RT,if_neg]
theorem ama(hG:HG G)(l:List bj)(hl:l.length≤1073741824)(hm:∀o∈l,cE o=0)(h3:∀o∈l,fg G o):∀(n i:Nat) (s:StateT),i+n=l.length→dy s → LX G 64 Kv Tryz.f64 DA (aF Tryz.prog 64 0) ((l,(((l.length:Nat):Int),((i:Int),()))),((zW,(aQ s,())),()))=some (D4 (l.drop i) s,()):=by
 intro n
 induction n with
 |zero =>intro i s hi hw;refine ar Uk ?_;refine ag (decide_eq_false (show ¬((i:Int)<((l.length:Nat):Int)) by omega)) ?_;rw[List.drop_eq_nil_of_le (by omega)];rfl
 |succ n ih =>
  intro i s hi hw;have aH:i<l.length:=by omega
  have ho:=hm l[i] (acv aH);obtain⟨e,w,h1,h2⟩:=VQ hG s l[i] hw ho (h3 _ (acv aH) s hw ho);rw[VR ho]at h2;refine ar Uk ?_;refine af (aN aH) (aa (aw (aby aH)) ?_);refine aa h1 ?_;rw[List.drop_eq_getElem_cons aH,D4];have HR:=hw.one l[i];by_cases he:e=0
  ·have e1:jU e w=(BS w,(0,())):=if_neg (by simp[he]);rw[e1]at h2;rw[←h2]at HR ⊢;rw[if_neg (by simp)];refine ag (show(e != 0)=false by simp[he]) ?_;have:=ih (i+1) (BS w) (by omega) HR;rw[←aA aH hl]at this;exact this
  ·have e1:jU e w=(zS,(e,())):=if_pos he;rw[e1]at h2;rw[←h2,if_pos he];exact af (show(e != 0)=true by simp[he]) rfl
theorem ab6(hG:HG G)(s:StateT)(l:List bj)(hw:dy s)(hl:l.length≤1073741824)(hm:∀o∈l,cE o=0)(h3:∀o∈l,fg G o):FX G 64 Kv ((s,l,()),())=some (D4 l s,()):=by have hn:=hw.n;refine av (hG _ _ rfl) ake ?_;refine aa (afZ hG s.1 hw.d.sm) ?_;refine aa (abZ (hG _ _ rfl) s.2 (by omega)) ?_;have:=ama hG l hl hm h3 l.length 0 s (by omega) hw;rw[List.drop_zero]at this;exact this
theorem LB(l:List bj)(h:lx l=0):∀o∈l,cE o=0:=by
 induction l with
 |nil=>simp_all
 |cons o r ih =>
  rw[lx]at h
  grind
theorem Nr{l:List bj}(h:eW l=0):∀o∈l,cE o=0:=by
 grind [eW,LB]
theorem agc(hG:HG G)(s:StateT)(l:List bj)(hw:dy s)(hl:l.length≤1073741824)(hf:∀o∈l,Fit o)(h3:∀o∈l,fg G o):FX G 40 MY ((s,l,()),())=some (cf s l,()):=by
 refine av (hG _ _ rfl) aj4 ?_;refine aa (alT hG l hl hf) ?_;unfold cf;by_cases hm:eW l=0
 ·rw[if_neg (by simp[hm])];refine ag (show(eW l != 0)=false by simp[hm]) ?_;exact aa (ab6 hG s l hw hl (Nr hm) h3) rfl
 ·rw[if_pos hm];exact af (show(eW l != 0)=true by simp[hm]) rfl
theorem agd(hG:HG G)(s:StateT)(l:List bj)(hw:dy s)(hl:l.length≤1073741824)(hf:∀o∈l,Fit o)(h3:∀o∈l,fg G o):FX G 62 w7 ((s,l,()),())=some ((iP s l,()),()):=by
 have hn:=hw.n;refine av (hG _ _ rfl) aj8 ?_;refine aa (agc hG s l hw hl hf h3) ?_;unfold iP;by_cases he:(cf s l).2.1=0
 ·rw[if_neg (by simp[he])];exact ag (show((cf s l).2.1 != 0)=false by simp[he]) rfl
 ·rw[if_pos he];refine af (show((cf s l).2.1 != 0)=true by simp[he]) ?_;refine aa (afZ hG s.1 hw.d.sm) ?_;exact aa (abZ (hG _ _ rfl) s.2 (by omega)) rfl
end Go.Vs
