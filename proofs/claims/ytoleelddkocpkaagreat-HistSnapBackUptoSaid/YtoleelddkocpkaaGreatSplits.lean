/- Edges cut and split -/
import Derived.Test.YtoleelddkocpkaaGreatFormed
import Derived.Test.YtoleelddkocpkaaGreatTop
set_option linter.unusedVariables false
set_option linter.unusedSimpArgs false
namespace Go.Vs
open Go.Proofs
variable {G:(f:FuncId)→(g:aO)→Option (g.A→Option g.B)}
theorem aaY(hG:HG G)(v:ax)(x:ab):FX G 219 GY ((v,x,()),())=some ((nP v.1 x,()),()):=by refine av (hG _ _ rfl) afh ?_;exact aa (VX hG v.1 x) rfl
def eW(l:List ax)(x:ab):Nat:=l.countP fun v=>mD v.1 x
theorem Je(l:List ax)(x:ab):eW l x≤l.length:=adD
theorem zZ{l:List ax}{x:ab}(h:∀v∈l,mD v.1 x=false):eW l x=0:=by
 grind [eW,List.countP_eq_zero]
theorem Hq{x:ab}:∀{l:List ax},iS l→∀(k:Nat) (v:ax),l[k]? = some v→(mD v.1 x=true↔k<eW l x)
 |[],_,k,v,h=>by simp at h
 |w::r,hs,k,v,h=>by
  have hw:∀{u:ax},u∈r→mD w.1 u.1=true:=fun {u} hu=>acM hs hu;have hr:iS r:=hs.of_cons;by_cases aN:mD w.1 x=true
  ·have e:eW (w::r) x=eW r x+1:=by grind [eW,List.countP_cons_of_pos]
   cases k with
   |zero=>simp_all
   |succ k=>have:=Hq (x:=x) hr k v (by simpa using h);simp_all
  ·have hn:∀u∈w::r,mD u.1 x=false:=fun u hu=>by
    rcases abD.1 hu with rfl|hu
    ·simp_all
    ·rw[Bool.eq_false_iff];grind [jH]
   grind [zZ,List.mem_of_getElem?]
theorem Wb(hG:HG G)(l:List ax)(x:ab)(hs:iS l)(hl:l.length≤50000000):∀(n i j:Nat),j-i≤n→i≤eW l x→eW l x≤j→j≤l.length → LX G 220218 jX Tryz.f218 jx (aK Tryz.prog 218 0) ((l,(((l.length:Nat):Int),((i:Int),((j:Int),())))),(((x,()),()),()))=some (((((eW l x:Nat):Int),(decide ((l[eW l x]?).map (·.1)=some x),())):Int×(Bool×Unit)),()):=by
 have vR:=Je l x;have fin:∀(i j:Nat),¬(i<j)→i≤eW l x→eW l x≤j→LX G 220218 jX Tryz.f218 jx (aK Tryz.prog 218 0) ((l,(((l.length:Nat):Int),((i:Int),((j:Int),())))),(((x,()),()),()))=some (((((eW l x:Nat):Int),(decide ((l[eW l x]?).map (·.1)=some x),())):Int×(Bool×Unit)),()):=fun i j Gv h1 h2=>by
  have hi:i=eW l x:=by omega
  subst hi;refine ar D0 ?_;refine af (decide_eq_false (show ¬(((eW l x:Nat):Int)<(j:Int)) by omega)) ?_;by_cases hc:eW l x<l.length
  ·have hx:l[eW l x]? = some l[eW l x]:=aa8 hc;refine ae (aT hc) ?_;refine aa (aB hx) ?_;refine aa (aaY hG l[eW l x] x) ?_;refine congrArg (fun b:Bool=>some ((((eW l x:Nat):Int),(b,())),())) ?_
   grind [nP,eW]
  ·refine af (decide_eq_false (show ¬(((eW l x:Nat):Int)<((l.length:Nat):Int)) by omega)) ?_;refine congrArg (fun b:Bool=>some ((((eW l x:Nat):Int),(b,())),())) ?_;simp_all
 intro n
 induction n with
 |zero=>grind
 |succ n ih =>
  intro i j Gv h1 h2 h3;by_cases aN:i<j
  case neg=>grind
  refine ar D0 ?_;refine ae (decide_eq_true (show((i:Int)<(j:Int)) by omega)) ?_;refine af rfl ?_;have hm:=NP (i:=i) (j:=j) (by omega) (by omega);have hh:(i+j) / 2<l.length:=by omega
  have hx:l[(i+j) / 2]? = some l[(i+j) / 2]:=aa8 hh;have qW:=Hq (x:=x) hs ((i+j) / 2) _ hx;refine aa (show aU l (IntKind.wrap .i64 (iu .u64 (IntKind.wrap .u64 (IntKind.wrap .i64 ((i:Int)+(j:Int)))) (1:Int)))=some l[(i+j) / 2] by rw[hm];exact aB hx) ?_;refine aa (aaY hG l[(i+j) / 2] x) ?_;by_cases ho:mD l[(i+j) / 2].1 x=true
  ·refine ae (decide_eq_true ((yi _ _).2 ho)) ?_;have hc:=qW.1 ho;have hw:IntKind.wrap .i64 (IntKind.wrap .i64 (iu .u64 (IntKind.wrap .u64 (IntKind.wrap .i64 ((i:Int)+(j:Int)))) (1:Int))+1)=(((i+j) / 2+1:Nat):Int):=by rw[hm];exact aD hh (by omega)
   have:=ih ((i+j) / 2+1) j (by omega) (by omega) h2 h3;rw[←hw]at this;exact this
  ·refine af (decide_eq_false (fun h=>ho ((yi _ _).1 h))) ?_;have hc:¬(i+j) / 2<eW l x:=fun h=>ho (qW.2 h);have:=ih i ((i+j) / 2) (by omega) h1 (by omega) (by omega);rw[←hm]at this;exact this
theorem Wc(hG:HG G)(l:List ax)(x:ab)(hs:iS l)(hl:l.length≤50000000) :
  FX G 220218 jX ((l,x,()),())=some (((((eW l x:Nat):Int),(decide ((l[eW l x]?).map (·.1)=some x),())):Int×(Bool×Unit)),()):=by
 refine av (hG _ _ rfl) Vp ?_;exact Wb hG l x hs hl l.length 0 l.length (by omega) (by omega) (Je l x) (acf _)
theorem LR(g:ax):∀{l:List ax},iS l→mv g l=if(l[eW l g.1]?).map (·.1)=some g.1 then l.set (eW l g.1) g else l.take (eW l g.1)++(g::l.drop (eW l g.1))
 |[],_=>rfl
 |w::r,hs=>by
  have hw:∀{u:ax},u∈r→mD w.1 u.1=true:=fun {u} hu=>acM hs hu;have hr:iS r:=adV hs;by_cases aN:mD w.1 g.1=true
  ·have e:eW (w::r) g.1=eW r g.1+1:=by grind [eW,List.countP_cons_of_pos]
   have bB:w.1≠g.1:=fun k=>by grind [fe]
   have vT:¬nP g.1 w.1≤0:=fun k=>by
    grind [rq,jH,fe]
   have ih:=LR g hr;rw[e,mv,if_neg vT,if_pos bB,ih]
   grind
  ·have hn:∀u∈w::r,mD u.1 g.1=false:=fun u hu=>by
    rcases abD.1 hu with rfl|hu
    ·simp_all
    ·rw[Bool.eq_false_iff];grind [jH]
   rw[zZ hn];by_cases he:w.1=g.1
   ·have amb:nP g.1 w.1≤0:=rq.2 (.inl he.symm);have h1:oQ g (w::r)=r:=by
     have:oQ g (w::r)=oQ g r:=by grind [oQ,List.filter_cons_of_neg]
     grind [uR,fe]
    simp_all [mv,if_pos]
   ·have OZ:mD g.1 w.1=true:=zT (by simp_all) he;have amb:nP g.1 w.1≤0:=rq.2 (.inr OZ);have h1:oQ g (w::r)=w::r:=uR (fun q hq k=>by
     grind)
    simp_all [mv,if_pos,if_neg]
theorem Hr{x:ab}:∀{l:List ax},iS l→(ic l x).isSome=decide ((l[eW l x]?).map (·.1)=some x)
 |[],_=>rfl
 |w::r,hs=>by
  have hw:∀{u:ax},u∈r→mD w.1 u.1=true:=fun {u} hu=>acM hs hu;have hr:iS r:=adV hs;rw[rr];by_cases aN:mD w.1 x=true
  ·have e:eW (w::r) x=eW r x+1:=by grind [eW,List.countP_cons_of_pos]
   have bB:w.1≠x:=fun k=>by grind [fe]
   rw[e,if_neg bB,Hr hr,List.getElem?_cons_succ]
  ·have hn:∀u∈w::r,mD u.1 x=false:=fun u hu=>by
    rcases abD.1 hu with rfl|hu
    ·simp_all
    ·rw[Bool.eq_false_iff];grind [jH]
   rw[zZ hn];by_cases he:w.1=x
   ·simp[he]
   ·have OZ:mD x w.1=true:=zT (by simp_all) he;have:ic r x=none:=by
     grind [ic,List.find?,decide,List.find?_eq_none,jH,fe]
    simp_all
theorem agz(hG:HG G)(l:List ax)(g:ax)(hs:iS l)(hl:l.length≤50000000):FX G 199 KV ((l,g,()),())=some ((bT l g,()),()):=by
 refine av (hG _ _ rfl) ae8 ?_;refine aa (Wc hG l g.1 hs hl) ?_;refine aa (acr (hG _ _ rfl) l hl) ?_;unfold bT;rw[Hr hs,LR g hs];have hc:eW l g.1≤l.length:=Je l g.1;by_cases h:(l[eW l g.1]?).map (·.1)=some g.1
 ·rw[decide_eq_true h,if_neg (fun k=>by cases k.1),if_pos h];refine ae rfl ?_;obtain⟨u,hu,_⟩:∃u,l[eW l g.1]? = some u∧u.1=g.1:=by simp_all
  have aN:=(abC.1 hu).1;refine ae (cP (fK _) (aT aN)) ?_;exact aa hu rfl
 ·rw[decide_eq_false h,if_neg h];refine af rfl ?_;by_cases h4:400≤l.length
  ·rw[if_pos ⟨rfl,h4⟩];exact af (decide_eq_false (show ¬((l.length:Nat):Int)<400 by omega)) rfl
  ·rw[if_neg (fun k=>h4 k.2)];refine ae (decide_eq_true (show((l.length:Nat):Int)<400 by omega)) ?_;have kZ:sF l ((eW l g.1:Nat):Int) [g]=true:=by
    grind [sF,decide_eq_true,eW,fits]
   refine ae kZ ?_;rfl
theorem Hs(hG:HG G)(w:aX)(x to:ab)(hs:iS w.2.2.1)(hl:w.2.2.1.length≤50000000):FX G 160 Dt ((x,to,()),(w,()))=some ((),((w.1,(w.2.1,(bT w.2.2.1 (x,to),()))),())):=by refine av (hG _ _ rfl) aeR ?_;exact aa (agz hG w.2.2.1 (x,to) hs hl) rfl
theorem Ht(hG:HG G)(w:aX)(x:ab)(hw:Rw w.1)(hl:w.1.length≤50000000)(hr:∀v∈w.1,v.2.1.length≤50000000){k:Nat}{v:ai}(hk:w.1[k]? = some v)(hx:x∈v.2.1) :
  FX G 162 nk ((x,()),(w,()))=some (((some ((⟨0,by decide⟩:Fin 1),k)),()),(w,())):=by
 refine av (hG _ _ rfl) aeT ?_;have XI:=(abC.1 hk).1;have loop:∀(n i:Nat),i+n=k→LX G 162 nk Tryz.f162 xH (aK Tryz.prog 162 0) ((((w.1.length:Nat):Int),((i:Int),())),((w,((x,()),())),()))=some (((some ((⟨0,by decide⟩:Fin 1),k)),()),(w,())):=by
  intro n
  induction n with
  |zero =>
   intro i hi;have hi:i=k:=by omega
   subst hi;refine ar Pd ?_;refine ae (aT XI) (ae (cP (fK _) (aT XI)) (aa hk ?_));refine aa (Hi hG v.2.1 x (by grind)) ?_;exact ae (decide_eq_true hx) rfl
  |succ n ih =>
   intro i hi;have rM:i<w.1.length:=by omega
   have hu:w.1[i]? = some w.1[i]:=aa8 rM;have Rm:x∉w.1[i].2.1:=fun hxi=>by have h1:w.1[i]=v:=hw.one (acI hk) (acV rM) hx hxi;have h2:=kN hw.s hk rfl;have h3:=kN hw.s (x:=v.1) hu (by rw[h1]);omega
   refine ar Pd ?_;refine ae (aT rM) (ae (cP (fK _) (aT rM)) (aa hu ?_));refine aa (Hi hG w.1[i].2.1 x (by grind)) ?_;refine af (decide_eq_false Rm) ?_;have:=ih (i+1) (by omega);rw[←aD rM (by omega)]at this;exact this
 exact loop k 0 (by omega)
theorem NU{l:List ai}{k:Nat}{v:ai}(hs:cc l)(hk:l[k]? = some v)(r:List ab):l.set k (v.1,(r,v.2.2))=l.map (uH v.1 r):=by
 have h:=j8 hs (acI hk);rw[kN hs hk rfl];refine(LJ hs h (uH v.1 r) (fun u=>(u.1,(r,u.2.2))) (fun u hu=>?_) (fun u hu=>?_)).symm
 ·unfold uH;rw[if_pos hu]
 simp_all [uH,if_neg]
theorem tw{l:List ai}{x:ab}(h:x∈an l):∃(k:Nat) (v:ai),l[k]? = some v∧x∈v.2.1∧v∈l:=by obtain⟨v,hv,hx⟩:=aS.1 h;obtain⟨k,hk,he⟩:=adN hv;exact⟨k,v,by simp_all,hx,hv⟩
structure Sv(l:List ai):Prop where
 n:l.length≤50000000
 r:∀v∈l,v.2.1.length≤50000000
theorem We{n:Int}(h:n=0∨n=1):cH .xor .i64 n 1=IntKind.wrap .i64 (1-n):=by rcases h with rfl|rfl<;>decide
theorem LS(hG:G 166 pQ=none)(x:ab)(h:x.2=0∨x.2=1):FX G 166 pQ ((x,()),())=some ((aj x,()),()):=by refine av hG aeW ?_;exact congrArg (fun n:Int=>some ((((x.1,n):ab),()),())) (We h)
theorem Hu{d:ak}(h:Rw d.1){v:ai}{x:ab}(hv:v∈d.1)(hx:x∈v.2.1):dq d x=if(jF v.2.1 x).1=x.1 then(if(jF v.2.1 (jF v.2.1 x)).1=x.1 then zD else jF v.2.1 (jF v.2.1 x)) else jF v.2.1 x:=by
 unfold dq;have e:bI d ((cf d x).getD zI)=v.2.1:=by unfold cf;rw[fh h hv hx];exact kQ h.s hv
 grind
theorem aaZ(hG:HG G)(w:aX)(x:ab)(hw:Rw w.1)(hs:Sv w.1)(hx:x∈an w.1)(e:List ag):FX G 161 Du ((x,()),(w,()))=some ((dq (w.1,e) x,()),(w,())):=by
 obtain⟨k,v,hk,oY,hv⟩:=tw hx;have O4:=hs.r v hv;refine av (hG _ _ rfl) aeS ?_;rw[Hu (d:=(w.1,e)) hw hv oY];have prev:∀y:ab,FX G 200 GX ((v.2.1,y,()),())=some (((jF v.2.1 y),((Lu (dG v.2.1 y (v.2.1.length-1))).2)),()):=fun y=>by
  grind [agx,trans,Lu,dG,jF,B6]
 have hP:∀y:ab,((y.1.1==x.1.1)&&(y.1.2==x.1.2))=decide (y.1=x.1):=fun y=>lN y.1 x.1;refine ar IM ?_;refine ae rfl (aa (Ht hG w x hw hs.n hs.r hk oY) ?_);refine vG rfl (ae rfl (aa hk ?_));refine aa (prev x) ?_;by_cases h1:(jF v.2.1 x).1=x.1
 ·rw[if_pos h1];refine bA ((hP _).trans (decide_eq_true h1)) ?_;refine ar IM ?_;refine ae rfl (aa (Ht hG w x hw hs.n hs.r hk oY) ?_);refine vG rfl (ae rfl (aa hk ?_));refine aa (prev (jF v.2.1 x)) ?_;by_cases h2:(jF v.2.1 (jF v.2.1 x)).1=x.1
  ·rw[if_pos h2];refine bA ((hP _).trans (decide_eq_true h2)) ?_;refine ar IM ?_;rfl
  ·rw[if_neg h2];exact bA ((hP _).trans (decide_eq_false h2)) rfl
 ·rw[if_neg h1];exact bA ((hP _).trans (decide_eq_false h1)) rfl
theorem LU{l:List ag}{x:ID}(hs:dH l)(h:(ba l x).isSome=true)(hl:l.length≤50000000) :
  kj l ((cw l x:Nat):Int) (IntKind.wrap .i64 (((cw l x:Nat):Int)+1))=true∧dJ l ((cw l x:Nat):Int) (IntKind.wrap .i64 (((cw l x:Nat):Int)+1))=dd l x:=by
 grind [Option.isSome_iff_exists,List.getElem?_eq_some_iff,nG,IntKind.wrap,cw,aD,kj,decide_eq_true,fits,zQ,dJ,Int.toNat_natCast]
theorem Wg{l:List ai}{x:ID}(hs:cc l)(h:(aR l x).isSome=true)(hl:l.length≤50000000) :
  kj l ((bU l x:Nat):Int) (IntKind.wrap .i64 (((bU l x:Nat):Int)+1))=true∧dJ l ((bU l x:Nat):Int) (IntKind.wrap .i64 (((bU l x:Nat):Int)+1))=cY l x:=by
 grind [Option.isSome_iff_exists,List.getElem?_eq_some_iff,dr,IntKind.wrap,bU,aD,kj,decide_eq_true,fits,zN,dJ,Int.toNat_natCast]
theorem Sv.re{l:List ai}(h:Sv l)(x:ID){r:List ab}(hr:r.length≤50000000):Sv (l.map (uH x r)):=by
 refine⟨by simp;exact h.n,fun w hw=>?_⟩;obtain⟨u,hu,rfl⟩:=acn.1 hw;unfold uH
 split
 ·exact hr
 ·exact h.r u hu
theorem Es{row:List ab}(d:ab):(iP row d).length≤row.length:=by
 grind [iP,jE,List.length_filter_le]
theorem PL{w:aX}{x:ab}(hw:Rw w.1){k:Nat}{v:ai}(hk:w.1[k]? = some v)(hx:x∈v.2.1)(e:List ag):w.1.set k (v.1,(iP v.2.1 x,v.2.2))=(aH (w.1,e) x).1:=by rw[kR (d:=(w.1,e)) hw (List.mem_of_getElem? hk) hx];exact NU hw.s hk _
theorem amc(hG:HG G)(s:StateT)(o:br)(h:eZ s)(hs:Sv s.1.1) :
  ∃(e:Int) (w:aX),FX G 115 Dm ((o,()),(aP s,()))=some ((e,()),(w,()))∧j7 e w=Ec s o:=by
 have bB:=h.d.ne;unfold Ec
 cases hf:(ba s.1.2 (bf o)).isSome with
 |false =>
  refine⟨13,aP s,?_,?_⟩
  ·refine av (hG _ _ rfl) aeD ?_;refine aa (qc hG (aP s) (bf o) h.d.se (by show s.1.2.length≤_;omega)) ?_;exact bA ((dC (l:=s.1.2) h.d.se).trans hf) rfl
  ·rw[if_pos (show(hP s.1 (bf o)).isSome=false from hf)];rfl
 |true =>
  rw[if_neg (show ¬(hP s.1 (bf o)).isSome=false by show ¬(ba s.1.2 (bf o)).isSome=false;rw[hf];simp)];obtain⟨x,hx⟩:∃x:ab,x=(bf o,0):=⟨_,rfl⟩;obtain⟨y,hy⟩:∃y:ab,y=(bf o,1):=⟨_,rfl⟩;have hxd:x∈an s.1.1:=by rw[hx];exact h.d.kU hf (.inl rfl)
  have hyd:y∈an s.1.1:=by rw[hy];exact h.d.kU hf (.inr rfl)
  have g1:=kT h.g h.n (x,dq s.1 x);have hn:=h.n;obtain⟨p1,q1⟩:=fX h.d.rw hxd;have ame:y∈an (aH s.1 x).1:=by
   grind
  have Sb:=kS (kS h.d.gv x) y;refine⟨0,((aH (aH s.1 x) y).1,(dd s.1.2 (bf o),(bT (bT s.2 (x,dq s.1 x)) (y,dq s.1 y),()))),?_,?_⟩
  ·refine av (hG _ _ rfl) aeD ?_;refine aa (qc hG (aP s) (bf o) h.d.se (by show s.1.2.length≤_;omega)) ?_;refine bA ((dC (l:=s.1.2) h.d.se).trans hf) (af rfl ?_);have amf:FX G 156 Dp ((bf o,()),())=some ((x,y,()),()):=by rw[hx,hy];exact av (hG _ _ rfl) aaD rfl
   refine aa amf ?_;refine ar Ny ?_;refine ae rfl (ae rfl (aa (a:=x) rfl ?_));refine aa (aaZ hG (aP s) x h.d.rw hs hxd s.1.2) ?_;refine aa (Hs hG (aP s) x (dq s.1 x) h.g (by show s.2.length≤_;omega)) ?_;refine ar Ny ?_;refine ae rfl (ae rfl (aa (a:=y) rfl ?_));refine aa (aaZ hG (s.1.1,(s.1.2,(bT s.2 (x,dq s.1 x),()))) y h.d.rw hs hyd s.1.2) ?_;refine aa (Hs hG (s.1.1,(s.1.2,(bT s.2 (x,dq s.1 x),()))) y (dq s.1 y) g1.1 (by grind)) ?_;refine ar Ny ?_;refine af rfl ?_;generalize bT (bT s.2 (x,dq s.1 x)) (y,dq s.1 y)=gg;obtain⟨k,v,hk,oY,hv⟩:=tw hxd;refine ar Nz ?_;refine ae rfl (ae rfl (aa (a:=x) rfl ?_));refine aa (Ht hG (s.1.1,(s.1.2,(gg,()))) x h.d.rw hs.n hs.r hk oY) ?_;refine vG rfl (ae rfl (aa hk ?_));refine aa (aaW hG v.2.1 x (h.d.rw.ring hv) (hs.r v hv)) ?_;refine aa hk ?_;have e1:s.1.1.set k (v.1,(iP v.2.1 x,v.2.2))=(aH s.1 x).1:=PL (w:=(s.1.1,(s.1.2,(gg,())))) h.d.rw hk oY s.1.2;have Nq:Sv (aH s.1 x).1:=by rw[kR h.d.rw hv oY];exact hs.re _ (acE (Es x) (hs.r v hv))
   obtain⟨k2,v2,qu,X3,BI⟩:=tw ame;have e2:(aH s.1 x).1.set k2 (v2.1,(iP v2.2.1 y,v2.2.2))=(aH (aH s.1 x) y).1:=PL (w:=((aH s.1 x).1,(s.1.2,(gg,())))) q1 qu X3 (aH s.1 x).2;have rest:∀a:List ai,a=(aH s.1 x).1→LX G 115 Dm Tryz.f115 zz (aK Tryz.prog 115 1) ((((cw s.1.2 (bf o):Nat):Int),((2:Int),((1:Int),()))),(((a,(s.1.2,(gg,()))),()),([x,y],())))=some (((0:Int),()),(((aH (aH s.1 x) y).1,(dd s.1.2 (bf o),(gg,()))),())):=by
    intro a ha;subst ha;refine ar Nz ?_;refine ae rfl (ae rfl (aa (a:=y) rfl ?_));refine aa (Ht hG ((aH s.1 x).1,(s.1.2,(gg,()))) y q1 Nq.n Nq.r qu X3) ?_;refine vG rfl (ae rfl (aa qu ?_));refine aa (aaW hG v2.2.1 y (q1.ring BI) (Nq.r v2 BI)) ?_;refine aa qu ?_;have last:∀b:List ai,b=(aH (aH s.1 x) y).1→LX G 115 Dm Tryz.f115 zz (aK Tryz.prog 115 1) ((((cw s.1.2 (bf o):Nat):Int),((2:Int),((2:Int),()))),(((b,(s.1.2,(gg,()))),()),([x,y],())))=some (((0:Int),()),(((aH (aH s.1 x) y).1,(dd s.1.2 (bf o),(gg,()))),())):=by intro b hb;subst hb;refine ar Nz ?_;obtain⟨d1,d2⟩:=LU h.d.se hf (by omega);refine af rfl (ae d1 ?_);exact congrArg (fun l:List ag=>some (((0:Int),()),(((aH (aH s.1 x) y).1,(l,(gg,()))),()))) d2
    exact last _ e2
   exact rest _ e1
  ·rw[←hx,←hy];unfold aM;rw[uO Sb];rfl
theorem NV{n:Int}(h0:0≤n)(h3:n≤3):cH .xor .i64 1 (cH .and .i64 n 1)=IntKind.wrap .i64 (1-Int.tmod n 2)∧iu .i64 n 1=IntKind.wrap .i64 (Int.tdiv n 2):=by
 have:n=0∨n=1∨n=2∨n=3:=by omega
 rcases this with rfl|rfl|rfl|rfl<;>exact⟨by decide,by decide⟩
theorem LV{l:List ai}{x:ab}(hw:Rw l){k:Nat}{v:ai}(hk:l[k]? = some v)(hx:x∈v.2.1)(y:ab)(e:List ag):l.set k (v.1,(fJ v.2.1 x y,v.2.2))=(aE (l,e) x y).1:=by rw[rl (d:=(l,e)) hw y (List.mem_of_getElem? hk) hx];exact NU hw.s hk _
theorem amg(hG:HG G)(s:StateT)(o:br)(h:eZ s)(hs:Sv s.1.1)(hm:cG o=0)(hk5:o.1=5) :
    ∃(e:Int) (w:aX),FX G 116 Bz ((o,()),(aP s,()))=some ((e,()),(w,()))∧j7 e w=kM s o:=by
  have bB:=h.d.ne;have MU:=h.d.nv;obtain⟨m1,m2,m3,m4⟩:=zY hm hk5;obtain⟨s1,s2⟩:=Er m3 m4;obtain⟨c1,c2⟩:=NV m3 m4;have key:∀(e:Int) (w:aX),FX G 116 Bz ((o,()),(aP s,()))=some ((e,()),(w,()))→j7 e w=kM s o→∃(e:Int) (w:aX),FX G 116 Bz ((o,()),(aP s,()))=some ((e,()),(w,()))∧j7 e w=kM s o:=fun e w a b=>⟨e,w,a,b⟩;have start:∀(e:Int) (w:aX),bH 116 Bz Tryz.f116 (FX G) (LX G 116 Bz Tryz.f116) ((o,()),(aP s,()))=some ((e,()),(w,()))→FX G 116 Bz ((o,()),(aP s,()))=some ((e,()),(w,())):=fun e w a =>av (hG _ _ rfl) a rfl;unfold kM
  cases hf:(ba s.1.2 (bf o)).isSome with
  |false =>
    refine⟨13,aP s,start _ _ ((YG).trans ?_),?_⟩
    · refine aa (qc hG (aP s) (bf o) h.d.se (by show s.1.2.length≤_;omega)) ?_
      refine aa (rT hG (aP s) (fG o) h.d.sv (by show s.1.1.length≤_;omega)) ?_;refine aa (qc hG (aP s) (bD o) h.d.se (by show s.1.2.length≤_;omega)) ?_;exact bA ((dC (l:=s.1.2) h.d.se).trans hf) rfl
    · rw[if_pos (show(hP s.1 (bf o)).isSome=false from hf)];rfl
  |true =>
  rw[if_neg (show ¬(hP s.1 (bf o)).isSome=false by show ¬(ba s.1.2 (bf o)).isSome=false;rw[hf];simp)]
  cases hfv:(aR s.1.1 (fG o)).isSome with
  |true =>
    refine⟨12,aP s,start _ _ ((YG).trans ?_),?_⟩
    · refine aa (qc hG (aP s) (bf o) h.d.se (by show s.1.2.length≤_;omega)) ?_
      refine aa (rT hG (aP s) (fG o) h.d.sv (by show s.1.1.length≤_;omega)) ?_;refine aa (qc hG (aP s) (bD o) h.d.se (by show s.1.2.length≤_;omega)) ?_;refine bA ((dC (l:=s.1.2) h.d.se).trans hf) (af rfl ?_);exact ae ((gD (l:=s.1.1) h.d.sv).trans hfv) rfl
    · rw[if_pos (show(bq s.1 (fG o)).isSome=true from hfv)];rfl
  |false =>
  rw[if_neg (show ¬(bq s.1 (fG o)).isSome=true by show ¬(aR s.1.1 (fG o)).isSome=true;rw[hfv];simp)]
  cases hfo:(ba s.1.2 (bD o)).isSome with
  |true =>
    refine⟨12,aP s,start _ _ ((YG).trans ?_),?_⟩
    · refine aa (qc hG (aP s) (bf o) h.d.se (by show s.1.2.length≤_;omega)) ?_
      refine aa (rT hG (aP s) (fG o) h.d.sv (by show s.1.1.length≤_;omega)) ?_;refine aa (qc hG (aP s) (bD o) h.d.se (by show s.1.2.length≤_;omega)) ?_;refine bA ((dC (l:=s.1.2) h.d.se).trans hf) (af rfl ?_);refine af ((gD (l:=s.1.1) h.d.sv).trans hfv) ?_;exact ae ((dC (l:=s.1.2) h.d.se).trans hfo) rfl
    · rw[if_pos (show(hP s.1 (bD o)).isSome=true from hfo)];rfl
  |false =>
  rw[if_neg (show ¬(hP s.1 (bD o)).isSome=true by show ¬(ba s.1.2 (bD o)).isSome=true;rw[hfo];simp)];have aqu:aR s.1.1 (fG o)=none:=by simp_all
  have amh:ba s.1.2 (bD o)=none:=by simp_all
  obtain⟨m,hmm⟩:∃m:ab,m=LF o:=⟨_,rfl⟩;obtain⟨kk,Ym⟩:∃m:ab,m=Hg o:=⟨_,rfl⟩;have JE:m∈an s.1.1:=by rw[hmm];exact h.d.kU hf s1
  have JD:aj kk∉an s.1.1:=by rw[Ym];exact h.d.uU amh _
  obtain⟨p1,q1⟩:=j9 h.d.rw JE JD;have qu:kk.2=0∨kk.2=1:=by rw[Ym];exact s2
  obtain⟨k,v,hk,oY,hv⟩:=tw JE;have e1:s.1.1.set k (v.1,(fJ v.2.1 m (aj kk),v.2.2))=(aE s.1 m (aj kk)).1:=LV h.d.rw hk oY _ s.1.2;have hlen:(aE s.1 m (aj kk)).1.length=s.1.1.length:=by grind
  have agy:aR (aE s.1 m (aj kk)).1 (fG o)=none:=by
    grind [aE,Vs.ck,qb,tv]
  have eM:((bf o,cH .xor .i64 1 (cH .and .i64 (oN o) 1)):ab)=m:=by rw[hmm,c1];rfl
  have eK:((bD o,iu .i64 (oN o) 1):ab)=kk:=by rw[Ym,c2];rfl
  have go:∀(e:Int) (w:aX),(∀a:List ai,a=(aE s.1 m (aj kk)).1→((FX G 112 KM (((fG o,(cp [m,kk],(e0,(0:Int)))),()),((a,(s.1.2,(s.2,()))),()))).bind fun(lL:((Int×Unit)×(aX×Unit))) =>cond (lL.1.1 != (0:Int)) (some (lL.1,((lL.2.1.1,(lL.2.1.2.1,lL.2.1.2.2)),()))) ((FX G 155 AS ((bD o,()),((lL.2.1.1,(lL.2.1.2.1,lL.2.1.2.2)),()))).bind fun(qv:((Int×Unit)×(aX×Unit))) =>some (qv.1,((qv.2.1.1,(qv.2.1.2.1,qv.2.1.2.2)),()))))=some ((e,()),(w,())))→FX G 116 Bz ((o,()),(aP s,()))=some ((e,()),(w,())):=fun e w rest=>by
    refine start _ _ ((YG).trans ?_);refine aa (qc hG (aP s) (bf o) h.d.se (by show s.1.2.length≤_;omega)) ?_;refine aa (rT hG (aP s) (fG o) h.d.sv (by show s.1.1.length≤_;omega)) ?_;refine aa (qc hG (aP s) (bD o) h.d.se (by show s.1.2.length≤_;omega)) ?_;refine bA ((dC (l:=s.1.2) h.d.se).trans hf) (af rfl ?_);refine af ((gD (l:=s.1.1) h.d.sv).trans hfv) ?_;refine af ((dC (l:=s.1.2) h.d.se).trans hfo) ?_;refine af rfl ?_;have body:∀mm k2:ab,mm=m→k2=kk→((FX G 162 nk ((mm,()),(aP s,()))).bind fun(y4:(((Option ((Fin 1)×Nat))×Unit)×(aX×Unit))) =>sE y4.1.1 (none) fun(p5:((Fin 1)×Nat)) =>cond (p5.1.val==0) (((y4.2.1.1)[p5.2]?).bind fun(y6:ai) =>(FX G 166 pQ ((k2,()),())).bind fun(y7:((ab×Unit)×Unit)) =>(FX G 165 vC ((y6.2.1,(mm,((y7.1.1.1,y7.1.1.2),()))),())).bind fun(y8:(((List ab)×Unit)×Unit)) =>((y4.2.1.1)[p5.2]?).bind fun(y9:ai) =>(FX G 167 rP (([mm,k2],()),())).bind fun(nL:(((List ab)×Unit)×Unit)) =>(FX G 112 KM (((fG o,(nL.1.1,((⟨#[]⟩:ByteArray),(0:Int)))),()),(((List.set y4.2.1.1 p5.2 (y9.1,(y8.1.1,y9.2.2))),(y4.2.1.2.1,y4.2.1.2.2)),()))).bind fun(lL:((Int×Unit)×(aX×Unit))) =>cond (lL.1.1 != (0:Int)) (some (lL.1,((lL.2.1.1,(lL.2.1.2.1,lL.2.1.2.2)),()))) ((FX G 155 AS ((bD o,()),((lL.2.1.1,(lL.2.1.2.1,lL.2.1.2.2)),()))).bind fun(qv:((Int×Unit)×(aX×Unit))) =>some (qv.1,((qv.2.1.1,(qv.2.1.2.1,qv.2.1.2.2)),())))) (none))=some ((e,()),(w,())):=by intro mm k2 ami amj;subst ami amj;refine aa (Ht hG (aP s) mm h.d.rw hs.n hs.r hk oY) ?_;refine vG rfl (ae rfl (aa hk ?_));refine aa (LS (hG _ _ rfl) k2 qu) ?_;refine aa (aaX hG v.2.1 mm (aj k2) (hs.r v hv)) ?_;refine aa hk ?_;refine aa (Ek hG [mm,k2] (by simp)) ?_;exact rest _ e1
    exact body _ _ eM eK
  have aqv:24≤s.1.1.length→rU ((aE s.1 m (aj kk)).1,(s.1.2,(s.2,()))) (fG o,(cp [m,kk],(e0,0)))=(3,((aE s.1 m (aj kk)).1,(s.1.2,(s.2,())))):=fun hb=>by
    unfold rU
    grind
  have acx:¬24≤s.1.1.length→rU ((aE s.1 m (aj kk)).1,(s.1.2,(s.2,()))) (fG o,(cp [m,kk],(e0,0)))=(0,(c8 (fG o,(cp [m,kk],(e0,0))) (aE s.1 m (aj kk)).1,(s.1.2,(s.2,())))):=fun hb=>by
    unfold rU
    grind
  by_cases hb:24≤s.1.1.length
  · refine⟨3,((aE s.1 m (aj kk)).1,(s.1.2,(s.2,()))),go _ _ (fun a ha=>?_),?_⟩
    · subst ha
      refine aa (acs hG ((aE s.1 m (aj kk)).1,(s.1.2,(s.2,()))) (fG o,(cp [m,kk],(e0,0))) q1.s (by grind)) ?_
      grind
    · rw[if_pos hb];rfl
  rw[if_neg hb];have hE:vH (c8 (fG o,(cp [m,kk],(e0,0))) (aE s.1 m (aj kk)).1,(s.1.2,(s.2,()))) (bD o)=if 40≤s.1.2.length then(3,(c8 (fG o,(cp [m,kk],(e0,0))) (aE s.1 m (aj kk)).1,(s.1.2,(s.2,())))) else(0,(c8 (fG o,(cp [m,kk],(e0,0))) (aE s.1 m (aj kk)).1,(dL (bD o,(e0,0)) s.1.2,(s.2,())))):=by
    unfold vH
    grind
  have fin:FX G 116 Bz ((o,()),(aP s,()))=some (((vH (c8 (fG o,(cp [m,kk],(e0,0))) (aE s.1 m (aj kk)).1,(s.1.2,(s.2,()))) (bD o)).1,()),((vH (c8 (fG o,(cp [m,kk],(e0,0))) (aE s.1 m (aj kk)).1,(s.1.2,(s.2,()))) (bD o)).2,())):=by refine go _ _ (fun a ha=>?_);subst ha;refine aa (acs hG ((aE s.1 m (aj kk)).1,(s.1.2,(s.2,()))) (fG o,(cp [m,kk],(e0,0))) q1.s (by grind)) ?_;rw[acx hb];refine af rfl ?_;exact aa (aaT hG (c8 (fG o,(cp [m,kk],(e0,0))) (aE s.1 m (aj kk)).1,(s.1.2,(s.2,()))) (bD o) h.d.se (by grind)) rfl
  rw[hE]at fin;by_cases hb4:40≤s.1.2.length
  · rw[if_pos hb4]at fin ⊢
    exact⟨_,_,fin,rfl⟩
  · rw[if_neg hb4]at fin ⊢
    refine⟨_,_,fin,?_⟩;rw[hmm,Ym];rfl
theorem amk(hG:HG G)(s:StateT)(o:br)(h:eZ s)(hs:Sv s.1.1) :
    ∃(e:Int) (w:aX),FX G 117 s6 ((o,()),(aP s,()))=some ((e,()),(w,()))∧j7 e w=j6 s o:=by
  have bB:=h.d.ne;have MU:=h.d.nv;have hgn:=h.n;have start:∀(e:Int) (w:aX),bH 117 s6 Tryz.f117 (FX G) (LX G 117 s6 Tryz.f117) ((o,()),(aP s,()))=some ((e,()),(w,()))→FX G 117 s6 ((o,()),(aP s,()))=some ((e,()),(w,())):=fun e w a =>av (hG _ _ rfl) a rfl;unfold j6
  cases hf:aR s.1.1 (bf o) with
  |none =>
    refine⟨13,aP s,start _ _ ((aeE).trans ?_),?_⟩
    · refine aa (rT hG (aP s) (bf o) h.d.sv (by show s.1.1.length≤_;omega)) ?_
      exact bA ((gD (l:=s.1.1) h.d.sv).trans (by rw[hf])) rfl
    · rw[show bq s.1 (bf o)=none from hf];rfl
  |some v =>
  have hfs:(aR s.1.1 (bf o)).isSome=true:=by rw[hf];rfl
  have hv:=eQ hf;have hvi:=iR hf;have sN:=dr h.d.sv hf;have aN:=(abC.1 sN).1;have hgr:=h.d.rw;have go:∀(e:Int) (w:aX),(cond ((((List.length v.2.1):Nat):Int) != (2:Int)) (some (((14:Int),()),(aP s,()))) _=some ((e,()),(w,())))→FX G 117 s6 ((o,()),(aP s,()))=some ((e,()),(w,())):=fun e w rest=>by refine start _ _ ((aeE).trans ?_);refine aa (rT hG (aP s) (bf o) h.d.sv (by show s.1.1.length≤_;omega)) ?_;refine bA ((gD (l:=s.1.1) h.d.sv).trans hfs) (af rfl ?_);refine ae (cP (fK _) (aT aN)) (aa sN ?_);exact rest
  rw[show bq s.1 (bf o)=some v from hf];by_cases vU:v.2.1.length=2
  case neg =>
    refine⟨14,aP s,go _ _ (ae (by grind) rfl),?_⟩;show j7 14 (aP s)=(match v.2.1 with | [r0,r1]=>jg s o r0 r1|_=>(zS,(14,())))
    split
    · grind
    · rfl
  obtain⟨r0,r1,hr⟩:∃r0 r1,v.2.1=[r0,r1]:=by
    match hq:v.2.1,vU with
    |[a,b],_=>grind
  have GR:(((List.length v.2.1:Nat):Int) != (2:Int))=false:=by rw[vU];rfl
  have g0:aU v.2.1 (0:Int)=some r0:=by rw[hr];rfl
  have g1:aU v.2.1 (1:Int)=some r1:=by rw[hr];rfl
  show ∃(e:Int) (w:aX),FX G 117 s6 ((o,()),(aP s,()))=some ((e,()),(w,()))∧j7 e w=(match v.2.1 with | [r0,r1]=>jg s o r0 r1|_=>(zS,(14,())));rw[hr];show ∃(e:Int) (w:aX),FX G 117 s6 ((o,()),(aP s,()))=some ((e,()),(w,()))∧j7 e w=jg s o r0 r1;unfold jg;by_cases h01:r0.1=r1.1
  · refine⟨14,aP s,go _ _ (af GR (aa g0 (aa g1 (ae ((lN r0.1 r1.1).trans (decide_eq_true h01)) rfl)))),?_⟩
    rw[if_pos h01];rfl
  rw[if_neg h01];have b01:=(lN r0.1 r1.1).trans (decide_eq_false h01);have tail:∀a b:ab,v.2.1.Perm [a,b]→a.1≠b.1→((FX G 166 pQ ((b,()),())).bind fun(y7:((ab×Unit)×Unit)) =>cond (kj s.1.1 ((bU s.1.1 (bf o):Nat):Int) (IntKind.wrap .i64 (((bU s.1.1 (bf o):Nat):Int)+(1:Int)))) ((FX G 162 nk (((y7.1.1.1,y7.1.1.2),()),(((dJ s.1.1 ((bU s.1.1 (bf o):Nat):Int) (IntKind.wrap .i64 (((bU s.1.1 (bf o):Nat):Int)+(1:Int)))),(s.1.2,(s.2,()))),()))).bind fun(y8:(((Option ((Fin 1)×Nat))×Unit)×(aX×Unit))) =>sE y8.1.1 (none) fun(p9:((Fin 1)×Nat)) =>cond (p9.1.val==0) (((y8.2.1.1)[p9.2]?).bind fun(nL:ai) =>(FX G 165 vC ((nL.2.1,((y7.1.1.1,y7.1.1.2),(a,()))),())).bind fun(lL:(((List ab)×Unit)×Unit)) =>((y8.2.1.1)[p9.2]?).bind fun(qv:ai) =>(FX G 159 oo ((b.1,()),(((List.set y8.2.1.1 p9.2 (qv.1,(lL.1.1,qv.2.2))),(y8.2.1.2.1,y8.2.1.2.2)),()))).bind fun(mo:((Int×(Bool×Unit))×(aX×Unit))) =>cond (kj mo.2.1.2.1 mo.1.1 (IntKind.wrap .i64 (mo.1.1+(1:Int)))) (LX G 117 s6 Tryz.f117 oP (aK Tryz.prog 117 0) (((0:Int),()),(((mo.2.1.1,((dJ mo.2.1.2.1 mo.1.1 (IntKind.wrap .i64 (mo.1.1+(1:Int)))),mo.2.1.2.2)),((a,()),((b,()),(((y7.1.1.1,y7.1.1.2),()),())))),()))) (none)) (none)) (none))=some (((0:Int),()),(((JH s o a b).1,((JH s o a b).2,(JG s.2 a b,()))),())):=by
    intro a b hp zH;obtain⟨p,q,h1,_,h2,_⟩:=nH h.d.sv hv;have pd:(an s.1.1).Perm (a::b::an (p++q)):=by
      have:=(jI p q v).trans (ady _ hp)
      grind
    have PM:cY s.1.1 (bf o)=p++q:=by grind
    have Sc:aM s.1 (bf o) zI=(p++q,s.1.2):=by unfold aM;rw[PM,rp h.d.ge]
    have Fq:=pd.nodup_iff.1 hgr.n;have hbm:b∈ends s.1.2:=h.d.pd.mem_iff.1 (pd.mem_iff.2 (by simp));obtain⟨e,he,he1,Fk⟩:=eC.1 hbm;have GO:(ba s.1.2 b.1).isSome=true:=by unfold ba;grind
    obtain⟨_,ho⟩:=hZ Fk;have Sd:aj b∈an (p++q):=by
      have h3:aj b∈an s.1.1:=h.d.kU (s:=(aj b).2) GO (by omega);rcases abD.1 (pd.mem_iff.1 h3) with k|k
      · grind
      rcases abD.1 k with k|k
      · have:=congrArg Prod.snd k;omega
      · exact k
    have Jd:Rw (p++q):=⟨by rw[←h2];exact nF h.d.sv,(ab1.1 (ab1.1 Fq).2).2⟩;have bz:∀u∈p++q,u∈s.1.1:=fun u hu=>by
      grind
    have Nq:Sv (p++q):=⟨by
      grind,fun u hu=>hs.r u (bz u hu)⟩
    obtain⟨dk1,dk2⟩:=Wg h.d.sv hfs (by omega);rw[PM]at dk2;obtain⟨k,u,hk,hxu,hu⟩:=tw Sd;have e1:(p++q).set k (u.1,(fJ u.2.1 (aj b) a,u.2.2))=(aE (p++q,s.1.2) (aj b) a).1:=LV Jd hk hxu _ s.1.2;have Sb:∀w∈(aE (p++q,s.1.2) (aj b) a).1,GV w:=rm (d:=(p++q,s.1.2)) (fun w hw=>h.d.gv w (bz w hw)) _ _;have eD:JH s o a b=((aE (p++q,s.1.2) (aj b) a).1,dd s.1.2 b.1):=by unfold JH;rw[Sc];unfold aM;rw[uO Sb];rfl
    have ga:=kT h.g h.n ((b.1,0),oR a b 0);rw[eD];refine aa (LS (hG _ _ rfl) b Fk) ?_;refine ae dk1 ?_;have r1:∀l1:List ai,l1=p++q→((FX G 162 nk ((aj b,()),((l1,(s.1.2,(s.2,()))),()))).bind fun(y8:(((Option ((Fin 1)×Nat))×Unit)×(aX×Unit))) =>sE y8.1.1 (none) fun(p9:((Fin 1)×Nat)) =>cond (p9.1.val==0) (((y8.2.1.1)[p9.2]?).bind fun(nL:ai) =>(FX G 165 vC ((nL.2.1,(aj b,(a,()))),())).bind fun(lL:(((List ab)×Unit)×Unit)) =>((y8.2.1.1)[p9.2]?).bind fun(qv:ai) =>(FX G 159 oo ((b.1,()),(((List.set y8.2.1.1 p9.2 (qv.1,(lL.1.1,qv.2.2))),(y8.2.1.2.1,y8.2.1.2.2)),()))).bind fun(mo:((Int×(Bool×Unit))×(aX×Unit))) =>cond (kj mo.2.1.2.1 mo.1.1 (IntKind.wrap .i64 (mo.1.1+(1:Int)))) (LX G 117 s6 Tryz.f117 oP (aK Tryz.prog 117 0) (((0:Int),()),(((mo.2.1.1,((dJ mo.2.1.2.1 mo.1.1 (IntKind.wrap .i64 (mo.1.1+(1:Int)))),mo.2.1.2.2)),((a,()),((b,()),((aj b,()),())))),()))) (none)) (none))=some (((0:Int),()),(((aE (p++q,s.1.2) (aj b) a).1,(dd s.1.2 b.1,(JG s.2 a b,()))),())):=by
      intro l1 hl1;subst hl1;refine aa (Ht hG (p++q,(s.1.2,(s.2,()))) (aj b) Jd Nq.n Nq.r hk hxu) ?_;refine vG rfl (ae rfl (aa hk ?_));refine aa (aaX hG u.2.1 (aj b) a (Nq.r u hu)) ?_;refine aa hk ?_;have r2:∀l2:List ai,l2=(aE (p++q,s.1.2) (aj b) a).1→((FX G 159 oo ((b.1,()),((l2,(s.1.2,(s.2,()))),()))).bind fun(mo:((Int×(Bool×Unit))×(aX×Unit))) =>cond (kj mo.2.1.2.1 mo.1.1 (IntKind.wrap .i64 (mo.1.1+(1:Int)))) (LX G 117 s6 Tryz.f117 oP (aK Tryz.prog 117 0) (((0:Int),()),(((mo.2.1.1,((dJ mo.2.1.2.1 mo.1.1 (IntKind.wrap .i64 (mo.1.1+(1:Int)))),mo.2.1.2.2)),((a,()),((b,()),((aj b,()),())))),()))) (none))=some (((0:Int),()),(((aE (p++q,s.1.2) (aj b) a).1,(dd s.1.2 b.1,(JG s.2 a b,()))),())):=by
        intro l2 vU;subst vU;refine aa (qc hG ((aE (p++q,s.1.2) (aj b) a).1,(s.1.2,(s.2,()))) b.1 h.d.se (by grind)) ?_;obtain⟨ek1,ek2⟩:=LU h.d.se GO (by omega);refine ae ek1 ?_;have r3:∀l3:List ag,l3=dd s.1.2 b.1→(LX G 117 s6 Tryz.f117 oP (aK Tryz.prog 117 0) (((0:Int),()),((((aE (p++q,s.1.2) (aj b) a).1,(l3,(s.2,()))),((a,()),((b,()),((aj b,()),())))),())))=some (((0:Int),()),(((aE (p++q,s.1.2) (aj b) a).1,(dd s.1.2 b.1,(JG s.2 a b,()))),())):=by
          intro l3 hl3;subst hl3;have eb:b=(b.1,b.2):=rfl;have eo:aj b=(b.1,(aj b).2):=rfl;rcases ho with⟨MJ,Rs⟩|⟨hb1,Yg⟩
          · rw[MJ]at eb;rw[Rs]at eo
            have t0:oR a b 0=zD:=by unfold oR;rw[if_neg (by rw[eo];simp)]
            have t1:oR a b 1=a:=by unfold oR;grind
            rw[t0,←eb]at ga;have eG:JG s.2 a b=bT (bT s.2 (b,zD)) (aj b,a):=by grind [JG]
            rw[eG];refine ar zG ?_;refine ae rfl (ae (by grind) ?_);refine aa (Hs hG ((aE (p++q,s.1.2) (aj b) a).1,(dd s.1.2 b.1,(s.2,()))) b zD h.g (by grind)) ?_;refine ar zG ?_;refine ae rfl (af (by show(b.2==(1:Int))=false;simp[MJ]) ?_);refine aa (Hs hG ((aE (p++q,s.1.2) (aj b) a).1,(dd s.1.2 b.1,(bT s.2 (b,zD),()))) (aj b) a ga.1 (by grind)) ?_;refine ar zG ?_;rfl
          · rw[hb1]at eb;rw[Yg]at eo
            have t0:oR a b 0=a:=by unfold oR;grind
            have t1:oR a b 1=zD:=by unfold oR;rw[if_neg (by rw[eo];simp)]
            rw[t0,←eo]at ga;have eG:JG s.2 a b=bT (bT s.2 (aj b,a)) (b,zD):=by grind [JG]
            rw[eG];refine ar zG ?_;refine ae rfl (af (by grind) ?_);refine aa (Hs hG ((aE (p++q,s.1.2) (aj b) a).1,(dd s.1.2 b.1,(s.2,()))) (aj b) a h.g (by grind)) ?_;refine ar zG ?_;refine ae rfl (ae (by show(b.2==(1:Int))=true;simp[hb1]) ?_);refine aa (Hs hG ((aE (p++q,s.1.2) (aj b) a).1,(dd s.1.2 b.1,(bT s.2 (aj b,a),()))) b zD ga.1 (by grind)) ?_;refine ar zG ?_;rfl
        exact r3 _ ek2
      exact r2 _ e1
    exact r1 _ dk2
  have bo:∀y:ab,((y.1.1==(bD o).1)&&(y.1.2==(bD o).2))=decide (y.1=bD o):=fun y=>lN y.1 (bD o);by_cases h0:r0.1=bD o
  · rw[if_pos h0]
    refine⟨0,((JH s o r1 r0).1,((JH s o r1 r0).2,(JG s.2 r1 r0,()))),go _ _ (af GR (aa g0 (aa g1 (af b01 (aa g0 (aa g1 (ae ((bo r0).trans (decide_eq_true h0)) ?_))))))),rfl⟩;refine bA ((bo r0).trans (decide_eq_true h0)) (af rfl ?_);exact tail r1 r0 (by rw[hr];exact List.Perm.swap _ _ _) (fun k=>h01 k.symm)
  rw[if_neg h0];by_cases h1:r1.1=bD o
  · rw[if_pos h1]
    refine⟨0,((JH s o r0 r1).1,((JH s o r0 r1).2,(JG s.2 r0 r1,()))),go _ _ (af GR (aa g0 (aa g1 (af b01 (aa g0 (aa g1 (af ((bo r0).trans (decide_eq_false h0)) ?_))))))),rfl⟩;refine bA ((bo r1).trans (decide_eq_true h1)) (af rfl ?_);exact tail r0 r1 (by rw[hr]) h01
  rw[if_neg h1];refine⟨14,aP s,go _ _ (af GR (aa g0 (aa g1 (af b01 (aa g0 (aa g1 (af ((bo r0).trans (decide_eq_false h0)) ?_))))))),rfl⟩;exact bA ((bo r1).trans (decide_eq_false h1)) (ae rfl rfl)
end Go.Vs
namespace Go.Vs
open Go.Proofs
theorem Hv{row:List ab}(hn:row.Nodup){i j:Nat}{hi:i<row.length}{hj:j<row.length}(h:row[i]=row[j]):i=j:=by
 grind [Nat.lt_trichotomy,absurd,List.pairwise_iff_getElem]
theorem z5{row:List ab}(hn:row.Nodup){i j:Nat}{x:ab}(hi:row[i]? = some x)(hj:row[j]? = some x):i=j:=by
 grind [List.getElem?_eq_some_iff,Hv]
theorem Bc(row:List ab):∃j,j≤row.length∧cp row=Fa row j:=by
 by_cases h0:row.length=0
 ·have:row=[]:=by simpa using h0
  subst this;exact⟨0,by simp,rfl⟩
 ·exact⟨fW row row 0 0,Nat.le_of_lt (ow row row 0 0 (by omega) (by omega)),rfl⟩
theorem Se{row:List ab}(hn:row.Nodup){k:Nat}{m y:ab}(hk:row[k]? = some m)(hy:y∉row):(row.set k y).Nodup:=by
 grind
theorem Y5{row:List ab}(hn:row.Nodup){k:Nat}{x:ab}(hk:row[k]? = some x):idx x row 0=(k:Int):=by
 grind [NR,z5]
theorem Wh(m k:ab):cp [m,k]=[m,k]∨cp [m,k]=[k,m]:=by
 have hm:=ow [m,k] [m,k] 0 0 (by simp) (by simp);have:fW [m,k] [m,k] 0 0=0∨fW [m,k] [m,k] 0 0=1:=by grind
 unfold cp;rcases this with h|h<;>rw[h]
 ·exact .inl rfl
 ·exact .inr rfl
end Go.Vs
namespace Go.Vs
open Go.Proofs
variable {G:(f:FuncId)→(g:aO)→Option (g.A→Option g.B)}
theorem Sf(l:List ai)(x:ID):l.any (fun w=>decide (w.1=x))=(aR l x).isSome:=by rw[Bool.eq_iff_iff,List.any_eq_true];unfold aR;simp_all
theorem Sh(l:List ag)(x:ID):l.any (fun w=>decide (w.1=x))=(ba l x).isSome:=by rw[Bool.eq_iff_iff,List.any_eq_true];unfold ba;simp_all
theorem Si(s:StateT)(o:br):j7 (wD (aP s) o).1 (wD (aP s) o).2=wB s o:=by
 unfold wD wB LC I6;rw[Sf,Sh];by_cases ho:rj o=true
 ·have hv:s.1.1.map (iQ o)=s.1.1:=by
   conv=>rhs;rw[←List.map_id s.1.1]
   exact List.map_congr_left fun u hu=>by simp_all [iQ,if_neg]
  rw[if_pos ho,ho,hv];show j7 (if(ba s.1.2 (bf o)).isSome=true then _ else _:Int×aX).1 (if(ba s.1.2 (bf o)).isSome=true then _ else _:Int×aX).2=_
  cases (ba s.1.2 (bf o)).isSome<;>rfl
 ·have sq:rj o=false:=by simpa using ho
  have he:s.1.2.map (j4 o)=s.1.2:=by
   conv=>rhs;rw[←List.map_id s.1.2]
   exact List.map_congr_left fun u hu=>by simp_all [j4,if_neg]
  rw[if_neg ho,sq,he];show j7 (if(aR s.1.1 (bf o)).isSome=true then _ else _:Int×aX).1 (if(aR s.1.1 (bf o)).isSome=true then _ else _:Int×aX).2=_
  cases (aR s.1.1 (bf o)).isSome<;>rfl
theorem Wi(hG:HG G)(w:aX)(o:br)(hk:7≤o.1)(hv:cc w.1)(he:dH w.2.1)(hlv:w.1.length≤50000000)(hle:w.2.1.length≤50000000) :
  FX G 85 IF ((o,()),(w,()))=some (((wD w o).1,()),((wD w o).2,())):=by
 refine av (hG _ _ rfl) Nx ?_;have kn:∀k:Int,k<7→(o.1==k)=false:=fun k qu=>Ba (by omega);refine af (kn 1 (by omega)) (af (kn 2 (by omega)) (af (kn 3 (by omega)) (af (kn 4 (by omega)) (af (kn 5 (by omega)) (af (kn 6 (by omega)) ?_)))));exact aa (al8 hG w o hv he hlv hle) rfl
def opL(x:ID)(e:Bool)(t:ByteArray):br:=(7,(x,(zI,(zI,(zC,(zC,(e,(t,0))))))))
def opA(x:ID)(e:Bool)(n:Int):br:=(8,(x,(zI,(zI,(zC,(zC,(e,(e0,n))))))))
theorem z6{t:ByteArray}(h:kL t=true):t.size≤16:=by simp_all [kL,Bool.and_eq_true,decide_eq_true_eq]
theorem acy:RY 0:=by unfold RY;omega
theorem LW{l:List ai}(hs:cc l){v w:ai}(hv:v∈l)(hw:w∈l)(h:w.1=v.1):w=v:=by
 have h1:=j8 hs hv
 grind [j8,Option.some.inj]
structure Lay(s t:StateT):Prop where
 v:cc t.1.1
 e:dH t.1.2
 sm:Sm t.1
 g:t.2.length≤50000000
theorem Be(l:List ag):(ends l).length=2*l.length:=by
 induction l with
 |nil=>rfl
 |cons e r ih=>grind [gE]
theorem Y6{l:List ai}{v:ai}(h:v∈l):v.2.1.length≤(an l).length:=by
 obtain⟨a,b,rfl⟩:=adt h
 grind [kP,fg]
theorem Wf.rv{d:ak}(h:Wf d):∀v∈d.1,v.2.1.length≤80:=fun v hv=>by
 have h1:=Y6 hv;have h2:=h.pd.length_eq;have h3:=h.ne
 grind [Be]
theorem Wf.sm{d:ak}(h:Wf d):Sm d:=⟨by have:=h.nv;omega,by have:=h.ne;omega,fun v hv=>by have:=h.rv v hv;omega⟩
theorem Wf.small{d:ak}(h:Wf d):Sv d.1:=⟨by have:=h.nv;omega,fun v hv=>by have:=h.rv v hv;omega⟩
theorem Sj(s:StateT)(o:br):j7 (rU (aP s) (bf o,([],(e0,0)))).1 (rU (aP s) (bf o,([],(e0,0)))).2=oy s o:=by
 by_cases hh:(aR s.1.1 (bf o)).isSome=true
 ·have a:rU (aP s) (bf o,([],(e0,0)))=(12,aP s):=if_pos hh;have b:oy s o=(zS,(12,())):=if_pos hh;rw[a,b];rfl
 by_cases h:24≤s.1.1.length
 ·have a:rU (aP s) (bf o,([],(e0,0)))=(3,aP s):=(if_neg hh).trans (if_pos h);have b:oy s o=(zS,(3,())):=(if_neg hh).trans (if_pos h);rw[a,b];rfl
 ·have a:rU (aP s) (bf o,([],(e0,0)))=(0,(c8 (bf o,([],(e0,0))) (aP s).1,(aP s).2)):=(if_neg hh).trans (if_neg h);have b:oy s o=(((c8 (bf o,([],(e0,0))) s.1.1,s.1.2),s.2),(0,())):=(if_neg hh).trans (if_neg h);rw[a,b];rfl
theorem Sk{s:StateT}(h:eZ s)(o:br):j7 (Hh (aP s) (bf o)).1 (Hh (aP s) (bf o)).2=vF s o:=by
 unfold Hh vF bq;show j7 (match aR s.1.1 (bf o) with|none=>(13,aP s)|some v=>if 0<v.2.1.length then(14,aP s) else(0,(cY s.1.1 (bf o),(s.1.2,(s.2,())))):Int×aX).1 (match aR s.1.1 (bf o) with|none=>(13,aP s)|some v=>if 0<v.2.1.length then(14,aP s) else(0,(cY s.1.1 (bf o),(s.1.2,(s.2,())))):Int×aX).2=_
 cases aR s.1.1 (bf o) with
 |none=>rfl
 |some v =>
  simp only;by_cases hl:0<v.2.1.length
  ·rw[if_pos hl,if_pos hl];rfl
  ·rw[if_neg hl,if_neg hl];unfold aM;rw[rp h.d.ge];rfl
def PN(s:StateT)(o:br):StateT×(Int×Unit) :=if o.1=1 then oy s o else if o.1=2 then vF s o else if o.1=3 then ox s o else if o.1=4 then Ec s o else if o.1=5 then kM s o else if o.1=6 then j6 s o else wB s o
theorem Sn(s:StateT)(o:br):kh s o=if cG o≠0 then(zS,(cG o,())) else PN s o:=rfl
theorem Wj(hG:HG G)(s:StateT)(o:br)(h:eZ s)(hm:cG o=0)(h3:o.1=3→∃(e:Int) (w:aX),FX G 114 q7 ((o,()),(aP s,()))=some ((e,()),(w,()))∧j7 e w=ox s o) :
  ∃(e:Int) (w:aX),FX G 85 IF ((o,()),(aP s,()))=some ((e,()),(w,()))∧j7 e w=PN s o:=by
 have hk:=Ep hm;have Y7:=h.d.small;have MU:=h.d.nv;have bB:=h.d.ne;have start:∀(e:Int) (w:aX),bH 85 IF Tryz.f85 (FX G) (LX G 85 IF Tryz.f85) ((o,()),(aP s,()))=some ((e,()),(w,()))→FX G 85 IF ((o,()),(aP s,()))=some ((e,()),(w,())):=fun e w a =>av (hG _ _ rfl) a rfl;unfold PN;by_cases h1:o.1=1
 ·rw[if_pos h1];refine⟨_,_,start _ _ ((Nx).trans (ae (JI h1) (aa (acs hG (aP s) (bf o,([],(e0,0))) h.d.sv Y7.n) rfl))),?_⟩;exact Sj s o
 rw[if_neg h1];by_cases h2:o.1=2
 ·rw[if_pos h2];refine⟨_,_,start _ _ ((Nx).trans (af (Ba h1) (ae (JI h2) (aa (al3 hG (aP s) o h.d.sv Y7.n) rfl)))),?_⟩;exact Sk h o
 rw[if_neg h2];by_cases Te:o.1=3
 ·rw[if_pos Te];obtain⟨e,w,a,b⟩:=h3 Te;exact⟨e,w,start _ _ ((Nx).trans (af (Ba h1) (af (Ba h2) (ae (JI Te) (aa a rfl))))),b⟩
 rw[if_neg Te];by_cases hk4:o.1=4
 ·rw[if_pos hk4];obtain⟨e,w,a,b⟩:=amc hG s o h Y7;exact⟨e,w,start _ _ ((Nx).trans (af (Ba h1) (af (Ba h2) (af (Ba Te) (ae (JI hk4) (aa a rfl)))))),b⟩
 rw[if_neg hk4];by_cases hk5:o.1=5
 ·rw[if_pos hk5];obtain⟨e,w,a,b⟩:=amg hG s o h Y7 hm hk5;exact⟨e,w,start _ _ ((Nx).trans (af (Ba h1) (af (Ba h2) (af (Ba Te) (af (Ba hk4) (ae (JI hk5) (aa a rfl))))))),b⟩
 rw[if_neg hk5];by_cases hk6:o.1=6
 ·rw[if_pos hk6];obtain⟨e,w,a,b⟩:=amk hG s o h Y7;exact⟨e,w,start _ _ ((Nx).trans (af (Ba h1) (af (Ba h2) (af (Ba Te) (af (Ba hk4) (af (Ba hk5) (ae (JI hk6) (aa a rfl)))))))),b⟩
 rw[if_neg hk6];refine⟨_,_,Wi hG (aP s) o (by omega) h.d.sv h.d.se Y7.n (by show s.1.2.length≤_;omega),?_⟩;exact Si s o
def kb(G:(f:FuncId)→(g:aO)→Option (g.A→Option g.B))(o:br):Prop:=∀s,eZ s→cG o=0→o.1=3→∃(e:Int) (w:aX),FX G 114 q7 ((o,()),(aP s,()))=some ((e,()),(w,()))∧j7 e w=ox s o
theorem Wl{s:StateT}{o:br}(hm:cG o=0):PN s o=kh s o:=by simp_all [Sn,if_neg]
theorem amo(hG:HG G)(l:List br)(hl:l.length≤1073741824)(hm:∀o∈l,cG o=0)(h3:∀o∈l,kb G o):∀(n i:Nat) (s:StateT),i+n=l.length→eZ s → LX G 64 KF Tryz.f64 DM (aK Tryz.prog 64 0) ((l,(((l.length:Nat):Int),((i:Int),()))),((zW,(aP s,())),()))=some (Ed (l.drop i) s,()):=by
 intro n
 induction n with
 |zero =>intro i s hi hw;refine ar UT ?_;refine af (decide_eq_false (show ¬((i:Int)<((l.length:Nat):Int)) by omega)) ?_;rw[List.drop_eq_nil_of_le (by omega)];rfl
 |succ n ih =>
  intro i s hi hw;have aN:i<l.length:=by omega
  have ho:=hm l[i] (acV aN);obtain⟨e,w,h1,h2⟩:=Wj hG s l[i] hw ho (h3 _ (acV aN) s hw ho);rw[Wl ho]at h2;refine ar UT ?_;refine ae (aT aN) (aa (aB (aa8 aN)) ?_);refine aa h1 ?_;rw[List.drop_eq_getElem_cons aN,Ed];have H4:=hw.one l[i];by_cases he:e=0
  ·have e1:j7 e w=(B8 w,(0,())):=if_neg (by simp[he]);rw[e1]at h2;rw[←h2]at H4 ⊢;rw[if_neg (by simp)];refine af (show(e != 0)=false by simp[he]) ?_;have:=ih (i+1) (B8 w) (by omega) H4;rw[←aD aN hl]at this;exact this
  ·have e1:j7 e w=(zS,(e,())):=if_pos he;rw[e1]at h2;rw[←h2,if_pos he];exact ae (show(e != 0)=true by simp[he]) rfl
theorem acz(hG:HG G)(s:StateT)(l:List br)(hw:eZ s)(hl:l.length≤1073741824)(hm:∀o∈l,cG o=0)(h3:∀o∈l,kb G o):FX G 64 KF ((s,l,()),())=some (Ed l s,()):=by have hn:=hw.n;refine av (hG _ _ rfl) aks ?_;refine aa (agq hG s.1 hw.d.sm) ?_;refine aa (acr (hG _ _ rfl) s.2 (by omega)) ?_;have:=amo hG l hl hm h3 l.length 0 s (by omega) hw;rw[List.drop_zero]at this;exact this
theorem LY(l:List br)(h:lQ l=0):∀o∈l,cG o=0:=by
 induction l with
 |nil=>simp_all
 |cons o r ih =>
  rw[lQ]at h
  grind
theorem NW{l:List br}(h:dM l=0):∀o∈l,cG o=0:=by
 grind [dM,LY]
theorem amp(hG:HG G)(s:StateT)(l:List br)(hw:eZ s)(hl:l.length≤1073741824)(hf:∀o∈l,Fit o)(h3:∀o∈l,kb G o):FX G 40 Us ((s,l,()),())=some (cZ s l,()):=by
 refine av (hG _ _ rfl) akj ?_;refine aa (agu hG l hl hf) ?_;unfold cZ;by_cases hm:dM l=0
 ·rw[if_neg (by simp[hm])];refine af (show(dM l != 0)=false by simp[hm]) ?_;exact aa (acz hG s l hw hl (NW hm) h3) rfl
 ·rw[if_pos hm];exact ae (show(dM l != 0)=true by simp[hm]) rfl
theorem agC(hG:HG G)(s:StateT)(l:List br)(hw:eZ s)(hl:l.length≤1073741824)(hf:∀o∈l,Fit o)(h3:∀o∈l,kb G o):FX G 62 KD ((s,l,()),())=some ((hY s l,()),()):=by
 have hn:=hw.n;refine av (hG _ _ rfl) akn ?_;refine aa (amp hG s l hw hl hf h3) ?_;unfold hY;by_cases he:(cZ s l).2.1=0
 ·rw[if_neg (by simp[he])];exact af (show((cZ s l).2.1 != 0)=false by simp[he]) rfl
 ·rw[if_pos he];refine ae (show((cZ s l).2.1 != 0)=true by simp[he]) ?_;refine aa (agq hG s.1 hw.d.sm) ?_;exact aa (acr (hG _ _ rfl) s.2 (by omega)) rfl
end Go.Vs
