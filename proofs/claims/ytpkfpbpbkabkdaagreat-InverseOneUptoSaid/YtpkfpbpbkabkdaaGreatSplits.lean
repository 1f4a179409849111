/- Edges cut and split -/
import Derived.Test.YtpkfpbpbkabkdaaGreatFormed
import Derived.Test.YtpkfpbpbkabkdaaGreatTop
set_option linter.unusedVariables false
set_option linter.unusedSimpArgs false
namespace Go.Vs
open Go.Proofs
variable {G:(f:FuncId)→(g:aS)→Option (g.A→Option g.B)}
theorem XA(hG:HG G)(v:aB)(x:ae):FX G 232 Ez ((v,x,()),())=some ((mu v.1 x,()),()):=by refine az (hG _ _ rfl) abN ?_;exact aa (Xw hG v.1 x) rfl
def dD(l:List aB)(x:ae):Nat:=l.countP fun v=>kG v.1 x
theorem GI(l:List aB)(x:ae):dD l x≤l.length:=aeM
theorem xW{l:List aB}{x:ae}(h:∀v∈l,kG v.1 x=false):dD l x=0:=by unfold dD;rw[List.countP_eq_zero];intro v hv;simp[h v hv]
theorem EW{x:ae}:∀{l:List aB},iY l→∀(k:Nat) (v:aB),l[k]? = some v→(kG v.1 x=true↔k<dD l x)
 |[],_,k,v,h=>by simp at h
 |w::r,hs,k,v,h=>by
  have hw:∀{u:aB},u∈r→kG w.1 u.1=true:=fun {u} hu=>adF hs hu;have hr:iY r:=hs.of_cons;by_cases aF:kG w.1 x=true
  ·have e:dD (w::r) x=dD r x+1:=by unfold dD;rw[List.countP_cons_of_pos (by simpa using aF)]
   cases k with
   |zero=>simp at h;subst h;simp[aF,e]
   |succ k=>have:=EW (x:=x) hr k v (by simpa using h);rw[this,e];omega
  ·have hn:∀u∈w::r,kG u.1 x=false:=fun u hu=>by
    rcases aa1.1 hu with rfl|hu
    ·simpa using aF
    ·rw[Bool.eq_false_iff];intro h2;exact aF (fT (hw hu) h2)
   rw[xW hn,hn v (List.mem_of_getElem? h)];simp
theorem S7(hG:HG G)(l:List aB)(x:ae)(hs:iY l)(hl:l.length≤50000000):∀(n i j:Nat),j-i≤n→i≤dD l x→dD l x≤j→j≤l.length → LX G 233231 jx Tryz.f231 iK (aO Tryz.prog 231 0) ((l,(((l.length:Nat):Int),((i:Int),((j:Int),())))),(((x,()),()),()))=some (((((dD l x:Nat):Int),(decide ((l[dD l x]?).map (·.1)=some x),())):Int×(Bool×Unit)),()):=by
 have rY:=GI l x;have fin:∀(i j:Nat),¬(i<j)→i≤dD l x→dD l x≤j→LX G 233231 jx Tryz.f231 iK (aO Tryz.prog 231 0) ((l,(((l.length:Nat):Int),((i:Int),((j:Int),())))),(((x,()),()),()))=some (((((dD l x:Nat):Int),(decide ((l[dD l x]?).map (·.1)=some x),())):Int×(Bool×Unit)),()):=fun i j zY h1 h2=>by
  have hi:i=dD l x:=by omega
  subst hi;refine ao Cs ?_;refine ag (decide_eq_false (show ¬(((dD l x:Nat):Int)<(j:Int)) by omega)) ?_;by_cases hc:dD l x<l.length
  ·have hx:l[dD l x]? = some l[dD l x]:=aaV hc;refine af (aY hc) ?_;refine aa (aA hx) ?_;refine aa (XA hG l[dD l x] x) ?_;refine congrArg (fun b:Bool=>some ((((dD l x:Nat):Int),(b,())),())) ?_;rw[hx];unfold mu;by_cases he:l[dD l x].1=x
   ·simp[he]
   ·simp[he];split<;>simp
  ·refine ag (decide_eq_false (show ¬(((dD l x:Nat):Int)<((l.length:Nat):Int)) by omega)) ?_;refine congrArg (fun b:Bool=>some ((((dD l x:Nat):Int),(b,())),())) ?_;rw[List.getElem?_eq_none (by omega)];simp
 intro n
 induction n with
 |zero=>intro i j zY h1 h2 h3;exact fin i j (by omega) h1 h2
 |succ n ih =>
  intro i j zY h1 h2 h3;by_cases aF:i<j
  case neg=>exact fin i j aF h1 h2
  refine ao Cs ?_;refine af (decide_eq_true (show((i:Int)<(j:Int)) by omega)) ?_;refine ag rfl ?_;have hm:=Le (i:=i) (j:=j) (by omega) (by omega);have hh:(i+j) / 2<l.length:=by omega
  have hx:l[(i+j) / 2]? = some l[(i+j) / 2]:=aaV hh;have oy:=EW (x:=x) hs ((i+j) / 2) _ hx;refine aa (show aT l (IntKind.wrap .i64 (lg .u64 (IntKind.wrap .u64 (IntKind.wrap .i64 ((i:Int)+(j:Int)))) (1:Int)))=some l[(i+j) / 2] by rw[hm];exact aA hx) ?_;refine aa (XA hG l[(i+j) / 2] x) ?_;by_cases ho:kG l[(i+j) / 2].1 x=true
  ·refine af (decide_eq_true ((sM _ _).2 ho)) ?_;have hc:=oy.1 ho;have hw:IntKind.wrap .i64 (IntKind.wrap .i64 (lg .u64 (IntKind.wrap .u64 (IntKind.wrap .i64 ((i:Int)+(j:Int)))) (1:Int))+1)=(((i+j) / 2+1:Nat):Int):=by rw[hm];exact aD hh (by omega)
   have:=ih ((i+j) / 2+1) j (by omega) (by omega) h2 h3;rw[←hw]at this;exact this
  ·refine ag (decide_eq_false (fun h=>ho ((sM _ _).1 h))) ?_;have hc:¬(i+j) / 2<dD l x:=fun h=>ho (oy.2 h);have:=ih i ((i+j) / 2) (by omega) h1 (by omega) (by omega);rw[←hm]at this;exact this
theorem S8(hG:HG G)(l:List aB)(x:ae)(hs:iY l)(hl:l.length≤50000000) :
  FX G 233231 jx ((l,x,()),())=some (((((dD l x:Nat):Int),(decide ((l[dD l x]?).map (·.1)=some x),())):Int×(Bool×Unit)),()):=by
 refine az (hG _ _ rfl) Sf ?_;exact S7 hG l x hs hl l.length 0 l.length (by omega) (by omega) (GI l x) (ada _)
theorem Jc(g:aB):∀{l:List aB},iY l→lq g l=if(l[dD l g.1]?).map (·.1)=some g.1 then l.set (dD l g.1) g else l.take (dD l g.1)++(g::l.drop (dD l g.1))
 |[],_=>rfl
 |w::r,hs=>by
  have hw:∀{u:aB},u∈r→kG w.1 u.1=true:=fun {u} hu=>adF hs hu;have hr:iY r:=aeY hs;by_cases aF:kG w.1 g.1=true
  ·have e:dD (w::r) g.1=dD r g.1+1:=by unfold dD;rw[List.countP_cons_of_pos (by simpa using aF)]
   have bw:w.1≠g.1:=fun k=>by rw[k,dS]at aF;cases aF
   have qX:¬mu g.1 w.1≤0:=fun k=>by
    rcases qg.1 k with k|k
    ·exact bw k.symm
    ·have:=fT aF k;rw[dS]at this;cases this
   have ih:=Jc g hr;rw[e,lq,if_neg qX,if_pos bw,ih];simp only[List.getElem?_cons_succ,List.set_cons_succ,List.take_succ_cons,List.drop_succ_cons,List.cons_append]
   split<;>rfl
  ·have hn:∀u∈w::r,kG u.1 g.1=false:=fun u hu=>by
    rcases aa1.1 hu with rfl|hu
    ·simpa using aF
    ·rw[Bool.eq_false_iff];intro h2;exact aF (fT (hw hu) h2)
   rw[xW hn];by_cases he:w.1=g.1
   ·have YV:mu g.1 w.1≤0:=qg.2 (.inl he.symm);have h1:nQ g (w::r)=r:=by
     have:nQ g (w::r)=nQ g r:=by unfold nQ;rw[List.filter_cons_of_neg (by simp[he])]
     rw[this];exact sQ (fun q hq k=>by have:=hw hq;rw[k,he,dS]at this;cases this)
    rw[lq,if_pos YV,h1,if_pos (by simp[he])];rfl
   ·have J5:kG g.1 w.1=true:=xR (by simpa using aF) he;have YV:mu g.1 w.1≤0:=qg.2 (.inr J5);have h1:nQ g (w::r)=w::r:=sQ (fun q hq k=>by
     rcases aa1.1 hq with rfl|hq
     ·exact he k
     ·have:=fT J5 (hw hq);rw[k,dS]at this;cases this)
    rw[lq,if_pos YV,h1,if_neg (by simp[he])];rfl
theorem EX{x:ae}:∀{l:List aB},iY l→(gD l x).isSome=decide ((l[dD l x]?).map (·.1)=some x)
 |[],_=>rfl
 |w::r,hs=>by
  have hw:∀{u:aB},u∈r→kG w.1 u.1=true:=fun {u} hu=>adF hs hu;have hr:iY r:=aeY hs;rw[qh];by_cases aF:kG w.1 x=true
  ·have e:dD (w::r) x=dD r x+1:=by unfold dD;rw[List.countP_cons_of_pos (by simpa using aF)]
   have bw:w.1≠x:=fun k=>by rw[k,dS]at aF;cases aF
   rw[e,if_neg bw,EX hr,List.getElem?_cons_succ]
  ·have hn:∀u∈w::r,kG u.1 x=false:=fun u hu=>by
    rcases aa1.1 hu with rfl|hu
    ·simpa using aF
    ·rw[Bool.eq_false_iff];intro h2;exact aF (fT (hw hu) h2)
   rw[xW hn];by_cases he:w.1=x
   ·simp[he]
   ·have J5:kG x w.1=true:=xR (by simpa using aF) he;have:gD r x=none:=by
     unfold gD;have:(List.find? (fun q=>decide (q.1=x)) r)=none:=by
      rw[List.find?_eq_none];intro q hq k;have k:q.1=x:=by simpa using k
      have:=fT J5 (hw hq);rw[k,dS]at this;cases this
     rw[this];rfl
    rw[if_neg he,this];simp[he]
theorem ac8(hG:HG G)(l:List aB)(g:aB)(hs:iY l)(hl:l.length≤50000000):FX G 215 Is ((l,g,()),())=some ((bQ l g,()),()):=by
 refine az (hG _ _ rfl) abD ?_;refine aa (S8 hG l g.1 hs hl) ?_;refine aa (VF (hG _ _ rfl) l hl) ?_;unfold bQ;rw[EX hs,Jc g hs];have hc:dD l g.1≤l.length:=GI l g.1;by_cases h:(l[dD l g.1]?).map (·.1)=some g.1
 ·rw[decide_eq_true h,if_neg (fun k=>by cases k.1),if_pos h];refine af rfl ?_;obtain⟨u,hu,_⟩:∃u,l[dD l g.1]? = some u∧u.1=g.1:=by
   cases hq:l[dD l g.1]? with
   |none=>rw[hq]at h;cases h
   |some u=>rw[hq]at h;exact⟨u,rfl,by simpa using h⟩
  have aF:=(aaW.1 hu).1;refine af (c9 (fj _) (aY aF)) ?_;exact aa hu rfl
 ·rw[decide_eq_false h,if_neg h];refine ag rfl ?_;by_cases h4:400≤l.length
  ·rw[if_pos ⟨rfl,h4⟩];exact ag (decide_eq_false (show ¬((l.length:Nat):Int)<400 by omega)) rfl
  ·rw[if_neg (fun k=>h4 k.2)];refine af (decide_eq_true (show((l.length:Nat):Int)<400 by omega)) ?_;have lT:qL l ((dD l g.1:Nat):Int) [g]=true:=by unfold qL;rw[decide_eq_true (show(0:Int)≤((dD l g.1:Nat):Int) by omega),decide_eq_true (show((dD l g.1:Nat):Int)≤((l.length:Nat):Int) by omega)];rw[fits (by simp;omega)];rfl
   refine af lT ?_;have e:gk l ((dD l g.1:Nat):Int) [g]=l.take (dD l g.1)++(g::l.drop (dD l g.1)):=by unfold gk;simp
   exact congrArg (fun r:List aB=>some ((r,()),())) e
theorem EY(hG:HG G)(w:ba)(x to:ae)(hs:iY w.2.2.1)(hl:w.2.2.1.length≤50000000):FX G 183 BP ((x,to,()),(w,()))=some ((),((w.1,(w.2.1,(bQ w.2.2.1 (x,to),()))),())):=by refine az (hG _ _ rfl) abl ?_;exact aa (ac8 hG w.2.2.1 (x,to) hs hl) rfl
theorem EZ(hG:HG G)(w:ba)(x:ae)(hw:Rw w.1)(hl:w.1.length≤50000000)(hr:∀v∈w.1,v.2.1.length≤50000000){k:Nat}{v:ah}(hk:w.1[k]? = some v)(hx:x∈v.2.1) :
  FX G 185 mh ((x,()),(w,()))=some (((some ((⟨0,by decide⟩:Fin 1),k)),()),(w,())):=by
 refine az (hG _ _ rfl) abn ?_;have P8:=(aaW.1 hk).1;have loop:∀(n i:Nat),i+n=k→LX G 185 mh Tryz.f185 vD (aO Tryz.prog 185 0) ((((w.1.length:Nat):Int),((i:Int),())),((w,((x,()),())),()))=some (((some ((⟨0,by decide⟩:Fin 1),k)),()),(w,())):=by
  intro n
  induction n with
  |zero =>
   intro i hi;have hi:i=k:=by omega
   subst hi;refine ao Mm ?_;refine af (aY P8) (af (c9 (fj _) (aY P8)) (aa hk ?_));refine aa (EO hG v.2.1 x (by have:=hr v (ac7 hk);omega)) ?_;exact af (decide_eq_true hx) rfl
  |succ n ih =>
   intro i hi;have ng:i<w.1.length:=by omega
   have hu:w.1[i]? = some w.1[i]:=aaV ng;have Eo:x∉w.1[i].2.1:=fun hxi=>by have h1:w.1[i]=v:=hw.one (ac7 hk) (adg ng) hx hxi;have h2:=j0 hw.s hk rfl;have h3:=j0 hw.s (x:=v.1) hu (by rw[h1]);omega
   refine ao Mm ?_;refine af (aY ng) (af (c9 (fj _) (aY ng)) (aa hu ?_));refine aa (EO hG w.1[i].2.1 x (by have:=hr _ (adg ng);omega)) ?_;refine ag (decide_eq_false Eo) ?_;have:=ih (i+1) (by omega);rw[←aD ng (by omega)]at this;exact this
 exact loop k 0 (by omega)
theorem Lk{l:List ah}{k:Nat}{v:ah}(hs:cc l)(hk:l[k]? = some v)(r:List ae):l.set k (v.1,(r,v.2.2))=l.map (sH v.1 r):=by
 have h:=iq hs (ac7 hk);rw[j0 hs hk rfl];refine(I6 hs h (sH v.1 r) (fun u=>(u.1,(r,u.2.2))) (fun u hu=>?_) (fun u hu=>?_)).symm
 ·unfold sH;rw[if_pos hu]
 ·unfold sH;rw[if_neg hu]
theorem rK{l:List ah}{x:ae}(h:x∈ax l):∃(k:Nat) (v:ah),l[k]? = some v∧x∈v.2.1∧v∈l:=by obtain⟨v,hv,hx⟩:=bh.1 h;obtain⟨k,hk,he⟩:=aeP hv;exact⟨k,v,by rw[List.getElem?_eq_getElem hk,he],hx,hv⟩
structure Sv(l:List ah):Prop where
 n:l.length≤50000000
 r:∀v∈l,v.2.1.length≤50000000
theorem Ta{n:Int}(h:n=0∨n=1):cY .xor .i64 n 1=IntKind.wrap .i64 (1-n):=by rcases h with rfl|rfl<;>decide
theorem Jd(hG:G 188 oF=none)(x:ae)(h:x.2=0∨x.2=1):FX G 188 oF ((x,()),())=some ((au x,()),()):=by refine az hG abq ?_;exact congrArg (fun n:Int=>some ((((x.1,n):ae),()),())) (Ta h)
theorem O2{d:aj}(h:Rw d.1){v:ah}{x:ae}(hv:v∈d.1)(hx:x∈v.2.1):du d x=if(dH v.2.1 x).1=x.1 then(if(dH v.2.1 (dH v.2.1 x)).1=x.1 then zD else dH v.2.1 (dH v.2.1 x)) else dH v.2.1 x:=by
 unfold du;have e:aW d ((bP d x).getD zI)=v.2.1:=by unfold bP;rw[iM h hv hx];exact iX h.s hv
 simp only[e];by_cases h1:(dH v.2.1 x).1=x.1
 ·simp only[if_pos h1]
 ·simp only[if_neg h1]
theorem XB(hG:HG G)(w:ba)(x:ae)(hw:Rw w.1)(hs:Sv w.1)(hx:x∈ax w.1)(e:List ai):FX G 184 BQ ((x,()),(w,()))=some ((du (w.1,e) x,()),(w,())):=by
 obtain⟨k,v,hk,jG,hv⟩:=rK hx;have PJ:=hs.r v hv;refine az (hG _ _ rfl) abm ?_;rw[O2 (d:=(w.1,e)) hw hv jG];have prev:∀y:ae,FX G 140 BT ((v.2.1,y,()),())=some (((dH v.2.1 y),((wH (cE v.2.1 y (v.2.1.length-1))).2)),()):=fun y=>by refine(Xz hG v.2.1 y (by omega)).trans ?_;have:(wH (cE v.2.1 y (v.2.1.length-1))).1=dH v.2.1 y:=sI _;rw[←this]
 have bZ:∀y:ae,((y.1.1==x.1.1)&&(y.1.2==x.1.2))=decide (y.1=x.1):=fun y=>gN y.1 x.1;refine ao Gc ?_;refine af rfl (aa (EZ hG w x hw hs.n hs.r hk jG) ?_);refine tF rfl (af rfl (aa hk ?_));refine aa (prev x) ?_;by_cases h1:(dH v.2.1 x).1=x.1
 ·rw[if_pos h1];refine aV ((bZ _).trans (decide_eq_true h1)) ?_;refine ao Gc ?_;refine af rfl (aa (EZ hG w x hw hs.n hs.r hk jG) ?_);refine tF rfl (af rfl (aa hk ?_));refine aa (prev (dH v.2.1 x)) ?_;by_cases h2:(dH v.2.1 (dH v.2.1 x)).1=x.1
  ·rw[if_pos h2];refine aV ((bZ _).trans (decide_eq_true h2)) ?_;refine ao Gc ?_;exact ag rfl rfl
  ·rw[if_neg h2];exact aV ((bZ _).trans (decide_eq_false h2)) rfl
 ·rw[if_neg h1];exact aV ((bZ _).trans (decide_eq_false h1)) rfl
theorem Je{l:List ai}{x:ID}(hs:dt l)(h:(aX l x).isSome=true)(hl:l.length≤50000000) :
  jH l ((cg l x:Nat):Int) (IntKind.wrap .i64 (((cg l x:Nat):Int)+1))=true∧dA l ((cg l x:Nat):Int) (IntKind.wrap .i64 (((cg l x:Nat):Int)+1))=dd l x:=by
 obtain⟨e,he⟩:=adf.1 h;have aF:=(aaW.1 (mC hs he)).1;have hw:IntKind.wrap .i64 (((cg l x:Nat):Int)+1)=((cg l x+1:Nat):Int):=aD aF (by omega);constructor
 ·rw[hw];unfold jH;rw[decide_eq_true (show(0:Int)≤((cg l x:Nat):Int) by omega),decide_eq_true (show((cg l x:Nat):Int)<((cg l x+1:Nat):Int) by omega),decide_eq_true (show((cg l x+1:Nat):Int)≤((l.length:Nat):Int) by omega),fits (by omega)];rfl
 ·rw[hw,xO hs h];unfold dA;simp only[Int.toNat_natCast]
theorem Tb{l:List ah}{x:ID}(hs:cc l)(h:(bg l x).isSome=true)(hl:l.length≤50000000) :
  jH l ((bJ l x:Nat):Int) (IntKind.wrap .i64 (((bJ l x:Nat):Int)+1))=true∧dA l ((bJ l x:Nat):Int) (IntKind.wrap .i64 (((bJ l x:Nat):Int)+1))=dG l x:=by
 obtain⟨e,he⟩:=adf.1 h;have aF:=(aaW.1 (dp hs he)).1;have hw:IntKind.wrap .i64 (((bJ l x:Nat):Int)+1)=((bJ l x+1:Nat):Int):=aD aF (by omega);constructor
 ·rw[hw];unfold jH;rw[decide_eq_true (show(0:Int)≤((bJ l x:Nat):Int) by omega),decide_eq_true (show((bJ l x:Nat):Int)<((bJ l x+1:Nat):Int) by omega),decide_eq_true (show((bJ l x+1:Nat):Int)≤((l.length:Nat):Int) by omega),fits (by omega)];rfl
 ·rw[hw,xL hs h];unfold dA;simp only[Int.toNat_natCast]
theorem Sv.re{l:List ah}(h:Sv l)(x:ID){r:List ae}(hr:r.length≤50000000):Sv (l.map (sH x r)):=by
 refine⟨by simp;exact h.n,fun w hw=>?_⟩;obtain⟨u,hu,rfl⟩:=adD.1 hw;unfold sH
 split
 ·exact hr
 ·exact h.r u hu
theorem CT{row:List ae}(d:ae):(cy row d).length≤row.length:=by unfold cy;rw[gy];exact adL _ _
theorem MT{w:ba}{x:ae}(hw:Rw w.1){k:Nat}{v:ah}(hk:w.1[k]? = some v)(hx:x∈v.2.1)(e:List ai):w.1.set k (v.1,(cy v.2.1 x,v.2.2))=(aJ (w.1,e) x).1:=by rw[j6 (d:=(w.1,e)) hw (List.mem_of_getElem? hk) hx];exact Lk hw.s hk _
theorem aiq(hG:HG G)(s:StateT)(o:aR)(h:eP s)(hs:Sv s.1.1) :
  ∃(e:Int) (w:ba),FX G 155 BL ((o,()),(aP s,()))=some ((e,()),(w,()))∧gG e w=DX s o:=by
 have bw:=h.d.ne;unfold DX
 cases hf:(aX s.1.2 (aH o)).isSome with
 |false =>
  refine⟨13,aP s,?_,?_⟩
  ·refine az (hG _ _ rfl) aa6 ?_;refine aa (oS hG (aP s) (aH o) h.d.se (by show s.1.2.length≤_;omega)) ?_;exact aV ((dv (l:=s.1.2) h.d.se).trans hf) rfl
  ·rw[if_pos (show(bZ s.1 (aH o)).isSome=false from hf)];rfl
 |true =>
  rw[if_neg (show ¬(bZ s.1 (aH o)).isSome=false by show ¬(aX s.1.2 (aH o)).isSome=false;rw[hf];simp)];obtain⟨x,hx⟩:∃x:ae,x=(aH o,0):=⟨_,rfl⟩;obtain⟨y,hy⟩:∃y:ae,y=(aH o,1):=⟨_,rfl⟩;have hxd:x∈ax s.1.1:=by rw[hx];exact h.d.jB hf (.inl rfl)
  have hyd:y∈ax s.1.1:=by rw[hy];exact h.d.jB hf (.inr rfl)
  have g1:=j8 h.g h.n (x,du s.1 x);have hn:=h.n;obtain⟨p1,q1⟩:=fG h.d.rw hxd;have ais:y∈ax (aJ s.1 x).1:=by
   rcases aa1.1 (p1.mem_iff.1 hyd) with k|k
   ·rw[hx,hy]at k;cases k
   ·exact k
  have PR:=j7 (j7 h.d.gv x) y;refine⟨0,((aJ (aJ s.1 x) y).1,(dd s.1.2 (aH o),(bQ (bQ s.2 (x,du s.1 x)) (y,du s.1 y),()))),?_,?_⟩
  ·refine az (hG _ _ rfl) aa6 ?_;refine aa (oS hG (aP s) (aH o) h.d.se (by show s.1.2.length≤_;omega)) ?_;refine aV ((dv (l:=s.1.2) h.d.se).trans hf) (ag rfl ?_);have ait:FX G 179 BM ((aH o,()),())=some ((x,y,()),()):=by rw[hx,hy];exact az (hG _ _ rfl) Xe rfl
   refine aa ait ?_;refine ao KV ?_;refine af rfl (af rfl (aa (a:=x) rfl ?_));refine aa (XB hG (aP s) x h.d.rw hs hxd s.1.2) ?_;refine aa (EY hG (aP s) x (du s.1 x) h.g (by show s.2.length≤_;omega)) ?_;refine ao KV ?_;refine af rfl (af rfl (aa (a:=y) rfl ?_));refine aa (XB hG (s.1.1,(s.1.2,(bQ s.2 (x,du s.1 x),()))) y h.d.rw hs hyd s.1.2) ?_;refine aa (EY hG (s.1.1,(s.1.2,(bQ s.2 (x,du s.1 x),()))) y (du s.1 y) g1.1 (by have:=g1.2;show(bQ s.2 (x,du s.1 x)).length≤_;omega)) ?_;refine ao KV ?_;refine ag rfl ?_;generalize bQ (bQ s.2 (x,du s.1 x)) (y,du s.1 y)=gg;obtain⟨k,v,hk,jG,hv⟩:=rK hxd;refine ao KW ?_;refine af rfl (af rfl (aa (a:=x) rfl ?_));refine aa (EZ hG (s.1.1,(s.1.2,(gg,()))) x h.d.rw hs.n hs.r hk jG) ?_;refine tF rfl (af rfl (aa hk ?_));refine aa (SY hG v.2.1 x (h.d.rw.ring hv) (hs.r v hv)) ?_;refine aa hk ?_;have e1:s.1.1.set k (v.1,(cy v.2.1 x,v.2.2))=(aJ s.1 x).1:=MT (w:=(s.1.1,(s.1.2,(gg,())))) h.d.rw hk jG s.1.2;have HV:Sv (aJ s.1 x).1:=by rw[j6 h.d.rw hv jG];exact hs.re _ (adC (CT x) (hs.r v hv))
   obtain⟨k2,v2,o5,Uw,yw⟩:=rK ais;have e2:(aJ s.1 x).1.set k2 (v2.1,(cy v2.2.1 y,v2.2.2))=(aJ (aJ s.1 x) y).1:=MT (w:=((aJ s.1 x).1,(s.1.2,(gg,())))) q1 o5 Uw (aJ s.1 x).2;have rest:∀a:List ah,a=(aJ s.1 x).1→LX G 155 BL Tryz.f155 xy (aO Tryz.prog 155 1) ((((cg s.1.2 (aH o):Nat):Int),((2:Int),((1:Int),()))),(((a,(s.1.2,(gg,()))),()),([x,y],())))=some (((0:Int),()),(((aJ (aJ s.1 x) y).1,(dd s.1.2 (aH o),(gg,()))),())):=by
    intro a ha;subst ha;refine ao KW ?_;refine af rfl (af rfl (aa (a:=y) rfl ?_));refine aa (EZ hG ((aJ s.1 x).1,(s.1.2,(gg,()))) y q1 HV.n HV.r o5 Uw) ?_;refine tF rfl (af rfl (aa o5 ?_));refine aa (SY hG v2.2.1 y (q1.ring yw) (HV.r v2 yw)) ?_;refine aa o5 ?_;have last:∀b:List ah,b=(aJ (aJ s.1 x) y).1→LX G 155 BL Tryz.f155 xy (aO Tryz.prog 155 1) ((((cg s.1.2 (aH o):Nat):Int),((2:Int),((2:Int),()))),(((b,(s.1.2,(gg,()))),()),([x,y],())))=some (((0:Int),()),(((aJ (aJ s.1 x) y).1,(dd s.1.2 (aH o),(gg,()))),())):=by intro b hb;subst hb;refine ao KW ?_;obtain⟨d1,d2⟩:=Je h.d.se hf (by omega);refine ag rfl (af d1 ?_);exact congrArg (fun l:List ai=>some (((0:Int),()),(((aJ (aJ s.1 x) y).1,(l,(gg,()))),()))) d2
    exact last _ e2
   exact rest _ e1
  ·rw[←hx,←hy];unfold bj;rw[wg PR];rfl
theorem Ll{n:Int}(h0:0≤n)(h3:n≤3):cY .xor .i64 1 (cY .and .i64 n 1)=IntKind.wrap .i64 (1-Int.tmod n 2)∧lg .i64 n 1=IntKind.wrap .i64 (Int.tdiv n 2):=by
 have:n=0∨n=1∨n=2∨n=3:=by omega
 rcases this with rfl|rfl|rfl|rfl<;>exact⟨by decide,by decide⟩
theorem Jf{l:List ah}{x:ae}(hw:Rw l){k:Nat}{v:ah}(hk:l[k]? = some v)(hx:x∈v.2.1)(y:ae)(e:List ai):l.set k (v.1,(jJ v.2.1 x y,v.2.2))=(aK (l,e) x y).1:=by rw[CO (d:=(l,e)) hw y (List.mem_of_getElem? hk) hx];exact Lk hw.s hk _
theorem aiu(hG:HG G)(s:StateT)(o:aR)(h:eP s)(hs:Sv s.1.1)(hm:bB o=0)(YW:o.1=5) :
    ∃(e:Int) (w:ba),FX G 156 zM ((o,()),(aP s,()))=some ((e,()),(w,()))∧gG e w=mA s o:=by
  have bw:=h.d.ne;have UG:=h.d.nv;obtain⟨m1,m2,m3,m4⟩:=xU hm YW;obtain⟨s1,s2⟩:=Jb m3 m4;obtain⟨c1,c2⟩:=Ll m3 m4;have key:∀(e:Int) (w:ba),FX G 156 zM ((o,()),(aP s,()))=some ((e,()),(w,()))→gG e w=mA s o→∃(e:Int) (w:ba),FX G 156 zM ((o,()),(aP s,()))=some ((e,()),(w,()))∧gG e w=mA s o:=fun e w a b=>⟨e,w,a,b⟩;have start:∀(e:Int) (w:ba),bS 156 zM Tryz.f156 (FX G) (LX G 156 zM Tryz.f156) ((o,()),(aP s,()))=some ((e,()),(w,()))→FX G 156 zM ((o,()),(aP s,()))=some ((e,()),(w,())):=fun e w a =>az (hG _ _ rfl) a rfl;unfold mA
  cases hf:(aX s.1.2 (aH o)).isSome with
  |false =>
    refine⟨13,aP s,start _ _ ((Vg).trans ?_),?_⟩
    · refine aa (oS hG (aP s) (aH o) h.d.se (by show s.1.2.length≤_;omega)) ?_
      refine aa (qx hG (aP s) (dR o) h.d.sv (by show s.1.1.length≤_;omega)) ?_;refine aa (oS hG (aP s) (an o) h.d.se (by show s.1.2.length≤_;omega)) ?_;exact aV ((dv (l:=s.1.2) h.d.se).trans hf) rfl
    · rw[if_pos (show(bZ s.1 (aH o)).isSome=false from hf)];rfl
  |true =>
  rw[if_neg (show ¬(bZ s.1 (aH o)).isSome=false by show ¬(aX s.1.2 (aH o)).isSome=false;rw[hf];simp)]
  cases UZ:(bg s.1.1 (dR o)).isSome with
  |true =>
    refine⟨12,aP s,start _ _ ((Vg).trans ?_),?_⟩
    · refine aa (oS hG (aP s) (aH o) h.d.se (by show s.1.2.length≤_;omega)) ?_
      refine aa (qx hG (aP s) (dR o) h.d.sv (by show s.1.1.length≤_;omega)) ?_;refine aa (oS hG (aP s) (an o) h.d.se (by show s.1.2.length≤_;omega)) ?_;refine aV ((dv (l:=s.1.2) h.d.se).trans hf) (ag rfl ?_);exact af ((fS (l:=s.1.1) h.d.sv).trans UZ) rfl
    · rw[if_pos (show(aQ s.1 (dR o)).isSome=true from UZ)];rfl
  |false =>
  rw[if_neg (show ¬(aQ s.1 (dR o)).isSome=true by show ¬(bg s.1.1 (dR o)).isSome=true;rw[UZ];simp)]
  cases PN:(aX s.1.2 (an o)).isSome with
  |true =>
    refine⟨12,aP s,start _ _ ((Vg).trans ?_),?_⟩
    · refine aa (oS hG (aP s) (aH o) h.d.se (by show s.1.2.length≤_;omega)) ?_
      refine aa (qx hG (aP s) (dR o) h.d.sv (by show s.1.1.length≤_;omega)) ?_;refine aa (oS hG (aP s) (an o) h.d.se (by show s.1.2.length≤_;omega)) ?_;refine aV ((dv (l:=s.1.2) h.d.se).trans hf) (ag rfl ?_);refine ag ((fS (l:=s.1.1) h.d.sv).trans UZ) ?_;exact af ((dv (l:=s.1.2) h.d.se).trans PN) rfl
    · rw[if_pos (show(bZ s.1 (an o)).isSome=true from PN)];rfl
  |false =>
  rw[if_neg (show ¬(bZ s.1 (an o)).isSome=true by show ¬(aX s.1.2 (an o)).isSome=true;rw[PN];simp)];have aiv:bg s.1.1 (dR o)=none:=by simpa using UZ
  have aiw:aX s.1.2 (an o)=none:=by simpa using PN
  obtain⟨m,PD⟩:∃m:ae,m=J8 o:=⟨_,rfl⟩;obtain⟨kk,UN⟩:∃m:ae,m=G6 o:=⟨_,rfl⟩;have hmd:m∈ax s.1.1:=by rw[PD];exact h.d.jB hf s1
  have J4:au kk∉ax s.1.1:=by rw[UN];exact h.d.Ax aiw _
  obtain⟨p1,q1⟩:=qf h.d.rw hmd J4;have o5:kk.2=0∨kk.2=1:=by rw[UN];exact s2
  obtain⟨k,v,hk,jG,hv⟩:=rK hmd;have e1:s.1.1.set k (v.1,(jJ v.2.1 m (au kk),v.2.2))=(aK s.1 m (au kk)).1:=Jf h.d.rw hk jG _ s.1.2;have hlen:(aK s.1 m (au kk)).1.length=s.1.1.length:=by unfold aK;exact fH _ _ _
  have VL:bg (aK s.1 m (au kk)).1 (dR o)=none:=by unfold aK Vs.cp;rw[oR (rH _ _),aiv];rfl
  have eM:((aH o,cY .xor .i64 1 (cY .and .i64 (oN o) 1)):ae)=m:=by rw[PD,c1];rfl
  have eK:((an o,lg .i64 (oN o) 1):ae)=kk:=by rw[UN,c2];rfl
  have go:∀(e:Int) (w:ba),(∀a:List ah,a=(aK s.1 m (au kk)).1→((FX G 152 Ij (((dR o,(cx [m,kk],(e0,(0:Int)))),()),((a,(s.1.2,(s.2,()))),()))).bind fun(kW:((Int×Unit)×(ba×Unit))) =>cond (kW.1.1 != (0:Int)) (some (kW.1,((kW.2.1.1,(kW.2.1.2.1,kW.2.1.2.2)),()))) ((FX G 178 yW ((an o,()),((kW.2.1.1,(kW.2.1.2.1,kW.2.1.2.2)),()))).bind fun(o6:((Int×Unit)×(ba×Unit))) =>some (o6.1,((o6.2.1.1,(o6.2.1.2.1,o6.2.1.2.2)),()))))=some ((e,()),(w,())))→FX G 156 zM ((o,()),(aP s,()))=some ((e,()),(w,())):=fun e w rest=>by
    refine start _ _ ((Vg).trans ?_);refine aa (oS hG (aP s) (aH o) h.d.se (by show s.1.2.length≤_;omega)) ?_;refine aa (qx hG (aP s) (dR o) h.d.sv (by show s.1.1.length≤_;omega)) ?_;refine aa (oS hG (aP s) (an o) h.d.se (by show s.1.2.length≤_;omega)) ?_;refine aV ((dv (l:=s.1.2) h.d.se).trans hf) (ag rfl ?_);refine ag ((fS (l:=s.1.1) h.d.sv).trans UZ) ?_;refine ag ((dv (l:=s.1.2) h.d.se).trans PN) ?_;refine ag rfl ?_;have body:∀mm k2:ae,mm=m→k2=kk→((FX G 185 mh ((mm,()),(aP s,()))).bind fun(y4:(((Option ((Fin 1)×Nat))×Unit)×(ba×Unit))) =>qK y4.1.1 (none) fun(p5:((Fin 1)×Nat)) =>cond (p5.1.val==0) (((y4.2.1.1)[p5.2]?).bind fun(y6:ah) =>(FX G 188 oF ((k2,()),())).bind fun(y7:((ae×Unit)×Unit)) =>(FX G 187 tx ((y6.2.1,(mm,((y7.1.1.1,y7.1.1.2),()))),())).bind fun(y8:(((List ae)×Unit)×Unit)) =>((y4.2.1.1)[p5.2]?).bind fun(y9:ah) =>(FX G 169 rp (([mm,k2],()),())).bind fun(mN:(((List ae)×Unit)×Unit)) =>(FX G 152 Ij (((dR o,(mN.1.1,((⟨#[]⟩:ByteArray),(0:Int)))),()),(((List.set y4.2.1.1 p5.2 (y9.1,(y8.1.1,y9.2.2))),(y4.2.1.2.1,y4.2.1.2.2)),()))).bind fun(kW:((Int×Unit)×(ba×Unit))) =>cond (kW.1.1 != (0:Int)) (some (kW.1,((kW.2.1.1,(kW.2.1.2.1,kW.2.1.2.2)),()))) ((FX G 178 yW ((an o,()),((kW.2.1.1,(kW.2.1.2.1,kW.2.1.2.2)),()))).bind fun(o6:((Int×Unit)×(ba×Unit))) =>some (o6.1,((o6.2.1.1,(o6.2.1.2.1,o6.2.1.2.2)),())))) (none))=some ((e,()),(w,())):=by intro mm k2 aix aiy;subst aix aiy;refine aa (EZ hG (aP s) mm h.d.rw hs.n hs.r hk jG) ?_;refine tF rfl (af rfl (aa hk ?_));refine aa (Jd (hG _ _ rfl) k2 o5) ?_;refine aa (Xy hG v.2.1 mm (au k2) (hs.r v hv)) ?_;refine aa hk ?_;refine aa (EP hG [mm,k2] (by simp)) ?_;exact rest _ e1
    exact body _ _ eM eK
  have aiz:24≤s.1.1.length→qy ((aK s.1 m (au kk)).1,(s.1.2,(s.2,()))) (dR o,(cx [m,kk],(e0,0)))=(3,((aK s.1 m (au kk)).1,(s.1.2,(s.2,())))):=fun hb=>by unfold qy;rw[if_neg (by rw[show bg ((aK s.1 m (au kk)).1,(s.1.2,(s.2,()))).1 ((dR o,(cx [m,kk],(e0,0))):ah).1=none from VL];simp)];rw[if_pos (by show 24≤(aK s.1 m (au kk)).1.length;omega)]
  have YX:¬24≤s.1.1.length→qy ((aK s.1 m (au kk)).1,(s.1.2,(s.2,()))) (dR o,(cx [m,kk],(e0,0)))=(0,(eO (dR o,(cx [m,kk],(e0,0))) (aK s.1 m (au kk)).1,(s.1.2,(s.2,())))):=fun hb=>by unfold qy;rw[if_neg (by rw[show bg ((aK s.1 m (au kk)).1,(s.1.2,(s.2,()))).1 ((dR o,(cx [m,kk],(e0,0))):ah).1=none from VL];simp)];rw[if_neg (by show ¬24≤(aK s.1 m (au kk)).1.length;omega)]
  by_cases hb:24≤s.1.1.length
  · refine⟨3,((aK s.1 m (au kk)).1,(s.1.2,(s.2,()))),go _ _ (fun a ha=>?_),?_⟩
    · subst ha
      refine aa (YR hG ((aK s.1 m (au kk)).1,(s.1.2,(s.2,()))) (dR o,(cx [m,kk],(e0,0))) q1.s (by show(aK s.1 m (au kk)).1.length≤_;omega)) ?_;rw[aiz hb];exact af rfl rfl
    · rw[if_pos hb];rfl
  rw[if_neg hb];have hE:tG (eO (dR o,(cx [m,kk],(e0,0))) (aK s.1 m (au kk)).1,(s.1.2,(s.2,()))) (an o)=if 40≤s.1.2.length then(3,(eO (dR o,(cx [m,kk],(e0,0))) (aK s.1 m (au kk)).1,(s.1.2,(s.2,())))) else(0,(eO (dR o,(cx [m,kk],(e0,0))) (aK s.1 m (au kk)).1,(dC (an o,(e0,0)) s.1.2,(s.2,())))):=by unfold tG;rw[if_neg (by show ¬(aX s.1.2 (an o)).isSome=true;rw[PN];simp)]
  have fin:FX G 156 zM ((o,()),(aP s,()))=some (((tG (eO (dR o,(cx [m,kk],(e0,0))) (aK s.1 m (au kk)).1,(s.1.2,(s.2,()))) (an o)).1,()),((tG (eO (dR o,(cx [m,kk],(e0,0))) (aK s.1 m (au kk)).1,(s.1.2,(s.2,()))) (an o)).2,())):=by refine go _ _ (fun a ha=>?_);subst ha;refine aa (YR hG ((aK s.1 m (au kk)).1,(s.1.2,(s.2,()))) (dR o,(cx [m,kk],(e0,0))) q1.s (by show(aK s.1 m (au kk)).1.length≤_;omega)) ?_;rw[YX hb];refine ag rfl ?_;exact aa (Xv hG (eO (dR o,(cx [m,kk],(e0,0))) (aK s.1 m (au kk)).1,(s.1.2,(s.2,()))) (an o) h.d.se (by show s.1.2.length≤_;omega)) rfl
  rw[hE]at fin;by_cases hb4:40≤s.1.2.length
  · rw[if_pos hb4]at fin ⊢
    exact⟨_,_,fin,rfl⟩
  · rw[if_neg hb4]at fin ⊢
    refine⟨_,_,fin,?_⟩;rw[PD,UN];rfl
theorem aiA(hG:HG G)(s:StateT)(o:aR)(h:eP s)(hs:Sv s.1.1) :
    ∃(e:Int) (w:ba),FX G 157 rm ((o,()),(aP s,()))=some ((e,()),(w,()))∧gG e w=ki s o:=by
  have bw:=h.d.ne;have UG:=h.d.nv;have hgn:=h.n;have start:∀(e:Int) (w:ba),bS 157 rm Tryz.f157 (FX G) (LX G 157 rm Tryz.f157) ((o,()),(aP s,()))=some ((e,()),(w,()))→FX G 157 rm ((o,()),(aP s,()))=some ((e,()),(w,())):=fun e w a =>az (hG _ _ rfl) a rfl;unfold ki
  cases hf:bg s.1.1 (aH o) with
  |none =>
    refine⟨13,aP s,start _ _ ((aa7).trans ?_),?_⟩
    · refine aa (qx hG (aP s) (aH o) h.d.sv (by show s.1.1.length≤_;omega)) ?_
      exact aV ((fS (l:=s.1.1) h.d.sv).trans (by rw[hf])) rfl
    · rw[show aQ s.1 (aH o)=none from hf];rfl
  |some v =>
  have hfs:(bg s.1.1 (aH o)).isSome=true:=by rw[hf];rfl
  have hv:=gQ hf;have hvi:=kM hf;have nI:=dp h.d.sv hf;have aF:=(aaW.1 nI).1;have hgr:=h.d.rw;have go:∀(e:Int) (w:ba),(cond ((((List.length v.2.1):Nat):Int) != (2:Int)) (some (((14:Int),()),(aP s,()))) _=some ((e,()),(w,())))→FX G 157 rm ((o,()),(aP s,()))=some ((e,()),(w,())):=fun e w rest=>by refine start _ _ ((aa7).trans ?_);refine aa (qx hG (aP s) (aH o) h.d.sv (by show s.1.1.length≤_;omega)) ?_;refine aV ((fS (l:=s.1.1) h.d.sv).trans hfs) (ag rfl ?_);refine af (c9 (fj _) (aY aF)) (aa nI ?_);exact rest
  rw[show aQ s.1 (aH o)=some v from hf];by_cases wF:v.2.1.length=2
  case neg =>
    refine⟨14,aP s,go _ _ (af (by rw[bne_iff_ne];omega) rfl),?_⟩;show gG 14 (aP s)=(match v.2.1 with | [r0,r1]=>jA s o r0 r1|_=>(zS,(14,())))
    split
    · rename_i hr;rw[hr]at wF;exact absurd rfl wF
    · rfl
  obtain⟨r0,r1,hr⟩:∃r0 r1,v.2.1=[r0,r1]:=by
    match hq:v.2.1,wF with
    |[a,b],_=>exact⟨a,b,rfl⟩
  have Eu:(((List.length v.2.1:Nat):Int) != (2:Int))=false:=by rw[wF];rfl
  have g0:aT v.2.1 (0:Int)=some r0:=by rw[hr];rfl
  have g1:aT v.2.1 (1:Int)=some r1:=by rw[hr];rfl
  show ∃(e:Int) (w:ba),FX G 157 rm ((o,()),(aP s,()))=some ((e,()),(w,()))∧gG e w=(match v.2.1 with | [r0,r1]=>jA s o r0 r1|_=>(zS,(14,())));rw[hr];show ∃(e:Int) (w:ba),FX G 157 rm ((o,()),(aP s,()))=some ((e,()),(w,()))∧gG e w=jA s o r0 r1;unfold jA;by_cases ZY:r0.1=r1.1
  · refine⟨14,aP s,go _ _ (ag Eu (aa g0 (aa g1 (af ((gN r0.1 r1.1).trans (decide_eq_true ZY)) rfl)))),?_⟩
    rw[if_pos ZY];rfl
  rw[if_neg ZY];have b01:=(gN r0.1 r1.1).trans (decide_eq_false ZY);have tail:∀a b:ae,v.2.1.Perm [a,b]→a.1≠b.1→((FX G 188 oF ((b,()),())).bind fun(y7:((ae×Unit)×Unit)) =>cond (jH s.1.1 ((bJ s.1.1 (aH o):Nat):Int) (IntKind.wrap .i64 (((bJ s.1.1 (aH o):Nat):Int)+(1:Int)))) ((FX G 185 mh (((y7.1.1.1,y7.1.1.2),()),(((dA s.1.1 ((bJ s.1.1 (aH o):Nat):Int) (IntKind.wrap .i64 (((bJ s.1.1 (aH o):Nat):Int)+(1:Int)))),(s.1.2,(s.2,()))),()))).bind fun(y8:(((Option ((Fin 1)×Nat))×Unit)×(ba×Unit))) =>qK y8.1.1 (none) fun(p9:((Fin 1)×Nat)) =>cond (p9.1.val==0) (((y8.2.1.1)[p9.2]?).bind fun(mN:ah) =>(FX G 187 tx ((mN.2.1,((y7.1.1.1,y7.1.1.2),(a,()))),())).bind fun(kW:(((List ae)×Unit)×Unit)) =>((y8.2.1.1)[p9.2]?).bind fun(o6:ah) =>(FX G 182 nj ((b.1,()),(((List.set y8.2.1.1 p9.2 (o6.1,(kW.1.1,o6.2.2))),(y8.2.1.2.1,y8.2.1.2.2)),()))).bind fun(ll:((Int×(Bool×Unit))×(ba×Unit))) =>cond (jH ll.2.1.2.1 ll.1.1 (IntKind.wrap .i64 (ll.1.1+(1:Int)))) (LX G 157 rm Tryz.f157 nO (aO Tryz.prog 157 0) (((0:Int),()),(((ll.2.1.1,((dA ll.2.1.2.1 ll.1.1 (IntKind.wrap .i64 (ll.1.1+(1:Int)))),ll.2.1.2.2)),((a,()),((b,()),(((y7.1.1.1,y7.1.1.2),()),())))),()))) (none)) (none)) (none))=some (((0:Int),()),(((Lc s o a b).1,((Lc s o a b).2,(I3 s.2 a b,()))),())):=by
    intro a b hp mJ;obtain⟨p,q,h1,_,h2,_⟩:=rJ h.d.sv hv;have pd:(ax s.1.1).Perm (a::b::ax (p++q)):=by have:=(iW p q v).trans (aej _ hp);rw[←h1]at this;exact this
    have MU:dG s.1.1 (aH o)=p++q:=by rw[←hvi];exact h2
    have O0:bj s.1 (aH o) zI=(p++q,s.1.2):=by unfold bj;rw[MU,we h.d.ge]
    have Ei:=pd.nodup_iff.1 hgr.n;have hbm:b∈ends s.1.2:=h.d.pd.mem_iff.1 (pd.mem_iff.2 (by simp));obtain⟨e,he,WN,zZ⟩:=cH.1 hbm;have Ad:(aX s.1.2 b.1).isSome=true:=by unfold aX;rw[List.find?_isSome];exact⟨e,he,by simpa using WN⟩
    obtain⟨_,ho⟩:=iZ zZ;have YU:au b∈ax (p++q):=by
      have h3:au b∈ax s.1.1:=h.d.jB (s:=(au b).2) Ad (by rcases ho with⟨_,k⟩|⟨_,k⟩<;>omega);rcases aa1.1 (pd.mem_iff.1 h3) with k|k
      · exact absurd (congrArg Prod.fst k) (fun k=>mJ k.symm)
      rcases aa1.1 k with k|k
      · have:=congrArg Prod.snd k;omega
      · exact k
    have VM:Rw (p++q):=⟨by rw[←h2];exact qc h.d.sv,(ac9.1 (ac9.1 Ei).2).2⟩;have bE:∀u∈p++q,u∈s.1.1:=fun u hu=>by
      rw[h1];rcases acw.1 hu with k|k
      · exact aa2 _ k
      · exact aco _ (aaY _ k)
    have HV:Sv (p++q):=⟨by have:=hs.n;rw[h1]at this;simp at this ⊢;omega,fun u hu=>hs.r u (bE u hu)⟩;obtain⟨dk1,dk2⟩:=Tb h.d.sv hfs (by omega);rw[MU]at dk2;obtain⟨k,u,hk,hxu,hu⟩:=rK YU;have e1:(p++q).set k (u.1,(jJ u.2.1 (au b) a,u.2.2))=(aK (p++q,s.1.2) (au b) a).1:=Jf VM hk hxu _ s.1.2;have PR:∀w∈(aK (p++q,s.1.2) (au b) a).1,GV w:=uF (d:=(p++q,s.1.2)) (fun w hw=>h.d.gv w (bE w hw)) _ _;have eD:Lc s o a b=((aK (p++q,s.1.2) (au b) a).1,dd s.1.2 b.1):=by unfold Lc;rw[O0];unfold bj;rw[wg PR];rfl
    have ga:=j8 h.g h.n ((b.1,0),qD a b 0);rw[eD];refine aa (Jd (hG _ _ rfl) b zZ) ?_;refine af dk1 ?_;have r1:∀l1:List ah,l1=p++q→((FX G 185 mh ((au b,()),((l1,(s.1.2,(s.2,()))),()))).bind fun(y8:(((Option ((Fin 1)×Nat))×Unit)×(ba×Unit))) =>qK y8.1.1 (none) fun(p9:((Fin 1)×Nat)) =>cond (p9.1.val==0) (((y8.2.1.1)[p9.2]?).bind fun(mN:ah) =>(FX G 187 tx ((mN.2.1,(au b,(a,()))),())).bind fun(kW:(((List ae)×Unit)×Unit)) =>((y8.2.1.1)[p9.2]?).bind fun(o6:ah) =>(FX G 182 nj ((b.1,()),(((List.set y8.2.1.1 p9.2 (o6.1,(kW.1.1,o6.2.2))),(y8.2.1.2.1,y8.2.1.2.2)),()))).bind fun(ll:((Int×(Bool×Unit))×(ba×Unit))) =>cond (jH ll.2.1.2.1 ll.1.1 (IntKind.wrap .i64 (ll.1.1+(1:Int)))) (LX G 157 rm Tryz.f157 nO (aO Tryz.prog 157 0) (((0:Int),()),(((ll.2.1.1,((dA ll.2.1.2.1 ll.1.1 (IntKind.wrap .i64 (ll.1.1+(1:Int)))),ll.2.1.2.2)),((a,()),((b,()),((au b,()),())))),()))) (none)) (none))=some (((0:Int),()),(((aK (p++q,s.1.2) (au b) a).1,(dd s.1.2 b.1,(I3 s.2 a b,()))),())):=by
      intro l1 hl1;subst hl1;refine aa (EZ hG (p++q,(s.1.2,(s.2,()))) (au b) VM HV.n HV.r hk hxu) ?_;refine tF rfl (af rfl (aa hk ?_));refine aa (Xy hG u.2.1 (au b) a (HV.r u hu)) ?_;refine aa hk ?_;have r2:∀l2:List ah,l2=(aK (p++q,s.1.2) (au b) a).1→((FX G 182 nj ((b.1,()),((l2,(s.1.2,(s.2,()))),()))).bind fun(ll:((Int×(Bool×Unit))×(ba×Unit))) =>cond (jH ll.2.1.2.1 ll.1.1 (IntKind.wrap .i64 (ll.1.1+(1:Int)))) (LX G 157 rm Tryz.f157 nO (aO Tryz.prog 157 0) (((0:Int),()),(((ll.2.1.1,((dA ll.2.1.2.1 ll.1.1 (IntKind.wrap .i64 (ll.1.1+(1:Int)))),ll.2.1.2.2)),((a,()),((b,()),((au b,()),())))),()))) (none))=some (((0:Int),()),(((aK (p++q,s.1.2) (au b) a).1,(dd s.1.2 b.1,(I3 s.2 a b,()))),())):=by
        intro l2 wF;subst wF;refine aa (oS hG ((aK (p++q,s.1.2) (au b) a).1,(s.1.2,(s.2,()))) b.1 h.d.se (by show s.1.2.length≤_;omega)) ?_;obtain⟨ek1,ek2⟩:=Je h.d.se Ad (by omega);refine af ek1 ?_;have r3:∀l3:List ai,l3=dd s.1.2 b.1→(LX G 157 rm Tryz.f157 nO (aO Tryz.prog 157 0) (((0:Int),()),((((aK (p++q,s.1.2) (au b) a).1,(l3,(s.2,()))),((a,()),((b,()),((au b,()),())))),())))=some (((0:Int),()),(((aK (p++q,s.1.2) (au b) a).1,(dd s.1.2 b.1,(I3 s.2 a b,()))),())):=by
          intro l3 hl3;subst hl3;have eb:b=(b.1,b.2):=rfl;have eo:au b=(b.1,(au b).2):=rfl;rcases ho with⟨Gh,QR⟩|⟨Ox,ho0⟩
          · rw[Gh]at eb;rw[QR]at eo
            have t0:qD a b 0=zD:=by unfold qD;rw[if_neg (by rw[eo];simp)]
            have t1:qD a b 1=a:=by unfold qD;rw[if_pos eo.symm]
            rw[t0,←eb]at ga;have eG:I3 s.2 a b=bQ (bQ s.2 (b,zD)) (au b,a):=by unfold I3;rw[t0,t1,←eb,←eo]
            rw[eG];refine ao xD ?_;refine af rfl (af (by show(b.2==(0:Int))=true;simp[Gh]) ?_);refine aa (EY hG ((aK (p++q,s.1.2) (au b) a).1,(dd s.1.2 b.1,(s.2,()))) b zD h.g (by show s.2.length≤_;omega)) ?_;refine ao xD ?_;refine af rfl (ag (by show(b.2==(1:Int))=false;simp[Gh]) ?_);refine aa (EY hG ((aK (p++q,s.1.2) (au b) a).1,(dd s.1.2 b.1,(bQ s.2 (b,zD),()))) (au b) a ga.1 (by have:=ga.2;show(bQ s.2 (b,zD)).length≤_;omega)) ?_;refine ao xD ?_;exact ag rfl rfl
          · rw[Ox]at eb;rw[ho0]at eo
            have t0:qD a b 0=a:=by unfold qD;rw[if_pos eo.symm]
            have t1:qD a b 1=zD:=by unfold qD;rw[if_neg (by rw[eo];simp)]
            rw[t0,←eo]at ga;have eG:I3 s.2 a b=bQ (bQ s.2 (au b,a)) (b,zD):=by unfold I3;rw[t0,t1,←eb,←eo]
            rw[eG];refine ao xD ?_;refine af rfl (ag (by show(b.2==(0:Int))=false;simp[Ox]) ?_);refine aa (EY hG ((aK (p++q,s.1.2) (au b) a).1,(dd s.1.2 b.1,(s.2,()))) (au b) a h.g (by show s.2.length≤_;omega)) ?_;refine ao xD ?_;refine af rfl (af (by show(b.2==(1:Int))=true;simp[Ox]) ?_);refine aa (EY hG ((aK (p++q,s.1.2) (au b) a).1,(dd s.1.2 b.1,(bQ s.2 (au b,a),()))) b zD ga.1 (by have:=ga.2;show(bQ s.2 (au b,a)).length≤_;omega)) ?_;refine ao xD ?_;exact ag rfl rfl
        exact r3 _ ek2
      exact r2 _ e1
    exact r1 _ dk2
  have bo:∀y:ae,((y.1.1==(an o).1)&&(y.1.2==(an o).2))=decide (y.1=an o):=fun y=>gN y.1 (an o);by_cases h0:r0.1=an o
  · rw[if_pos h0]
    refine⟨0,((Lc s o r1 r0).1,((Lc s o r1 r0).2,(I3 s.2 r1 r0,()))),go _ _ (ag Eu (aa g0 (aa g1 (ag b01 (aa g0 (aa g1 (af ((bo r0).trans (decide_eq_true h0)) ?_))))))),rfl⟩;refine aV ((bo r0).trans (decide_eq_true h0)) (ag rfl ?_);exact tail r1 r0 (by rw[hr];exact List.Perm.swap _ _ _) (fun k=>ZY k.symm)
  rw[if_neg h0];by_cases h1:r1.1=an o
  · rw[if_pos h1]
    refine⟨0,((Lc s o r0 r1).1,((Lc s o r0 r1).2,(I3 s.2 r0 r1,()))),go _ _ (ag Eu (aa g0 (aa g1 (ag b01 (aa g0 (aa g1 (ag ((bo r0).trans (decide_eq_false h0)) ?_))))))),rfl⟩;refine aV ((bo r1).trans (decide_eq_true h1)) (ag rfl ?_);exact tail r0 r1 (by rw[hr]) ZY
  rw[if_neg h1];refine⟨14,aP s,go _ _ (ag Eu (aa g0 (aa g1 (ag b01 (aa g0 (aa g1 (ag ((bo r0).trans (decide_eq_false h0)) ?_))))))),rfl⟩;exact aV ((bo r1).trans (decide_eq_false h1)) (af rfl rfl)
end Go.Vs
namespace Go.Vs
open Go.Proofs
theorem E0{row:List ae}(hn:row.Nodup){i j:Nat}{hi:i<row.length}{hj:j<row.length}(h:row[i]=row[j]):i=j:=by
 rcases Nat.lt_trichotomy i j with k|k|k
 ·exact absurd h (aeS.1 hn i j hi hj k)
 ·exact k
 ·exact absurd h.symm (aeS.1 hn j i hj hi k)
theorem E1{row:List ae}(hn:row.Nodup){i j:Nat}{x:ae}(hi:row[i]? = some x)(hj:row[j]? = some x):i=j:=by obtain⟨h1,h2⟩:=aaW.1 hi;obtain⟨h3,h4⟩:=aaW.1 hj;exact E0 hn (h2.trans h4.symm)
theorem Jg(row:List ae):∃j,j≤row.length∧cx row=Dy row j:=by
 by_cases h0:row.length=0
 ·have:row=[]:=by simpa using h0
  subst this;exact⟨0,by simp,rfl⟩
 ·exact⟨fM row row 0 0,Nat.le_of_lt (p6 row row 0 0 (by omega) (by omega)),rfl⟩
theorem VN{row:List ae}(hn:row.Nodup){k:Nat}{x:ae}(hk:row[k]? = some x):idx x row 0=(k:Int):=by have:=Lf (d:=x) (row:=row) (k:=k) (i:=0) hk (fun j hj he=>by have:=E1 hn hk he;omega);omega
end Go.Vs
namespace Go.Vs
open Go.Proofs
variable {G:(f:FuncId)→(g:aS)→Option (g.A→Option g.B)}
theorem O3(l:List ah)(x:ID):l.any (fun w=>decide (w.1=x))=(bg l x).isSome:=by rw[Bool.eq_iff_iff,List.any_eq_true];unfold bg;rw[List.find?_isSome]
theorem O4(l:List ai)(x:ID):l.any (fun w=>decide (w.1=x))=(aX l x).isSome:=by rw[Bool.eq_iff_iff,List.any_eq_true];unfold aX;rw[List.find?_isSome]
theorem O5(s:StateT)(o:aR):gG (uD (aP s) o).1 (uD (aP s) o).2=xI s o:=by
 unfold uD xI I2 GA;rw[O3,O4];by_cases ho:fF o=true
 ·have hv:s.1.1.map (jh o)=s.1.1:=by
   conv=>rhs;rw[←List.map_id s.1.1]
   exact ae1 fun u hu=>by unfold jh;rw[if_neg (by rw[ho];simp)];rfl
  rw[if_pos ho,ho,hv];show gG (if(aX s.1.2 (aH o)).isSome=true then _ else _:Int×ba).1 (if(aX s.1.2 (aH o)).isSome=true then _ else _:Int×ba).2=_
  cases (aX s.1.2 (aH o)).isSome<;>rfl
 ·have nK:fF o=false:=by simpa using ho
  have he:s.1.2.map (jZ o)=s.1.2:=by
   conv=>rhs;rw[←List.map_id s.1.2]
   exact ae1 fun u hu=>by unfold jZ;rw[if_neg (by rw[nK];simp)];rfl
  rw[if_neg ho,nK,he];show gG (if(bg s.1.1 (aH o)).isSome=true then _ else _:Int×ba).1 (if(bg s.1.1 (aH o)).isSome=true then _ else _:Int×ba).2=_
  cases (bg s.1.1 (aH o)).isSome<;>rfl
theorem Td(hG:HG G)(w:ba)(o:aR)(hk:7≤o.1)(hv:cc w.1)(he:dt w.2.1)(PO:w.1.length≤50000000)(hle:w.2.1.length≤50000000) :
  FX G 131 BJ ((o,()),(w,()))=some (((uD w o).1,()),((uD w o).2,())):=by
 refine az (hG _ _ rfl) KU ?_;have kn:∀k:Int,k<7→(o.1==k)=false:=fun k o5=>zn (by omega);refine ag (kn 1 (by omega)) (ag (kn 2 (by omega)) (ag (kn 3 (by omega)) (ag (kn 4 (by omega)) (ag (kn 5 (by omega)) (ag (kn 6 (by omega)) ?_)))));exact aa (ain hG w o hv he PO hle) rfl
def O6(x:ID)(e:Bool)(t:ByteArray):aR:=(7,(x,(zI,(zI,(zC,(zC,(e,(t,0))))))))
def PS(x:ID)(e:Bool)(n:Int):aR:=(8,(x,(zI,(zI,(zC,(zC,(e,(e0,n))))))))
theorem MV{x:ID}{e:Bool}{t:ByteArray}(hx:cf x=true)(ht:mP t=true):bB (O6 x e t)=0:=by
 unfold bB;rw[if_neg (by simp[O6]),if_neg (by simp[O6]),if_neg (by simp[O6,hx]),if_neg,if_neg (by simp[O6]),if_neg (by simp[O6]),if_neg (by simp[O6]),if_neg (by simp[O6]),if_pos (show(O6 x e t).1=7 from rfl)]
 ·exact if_pos ht
 intro h;have:qa (jL (O6 x e t)) J7=true:=(im _ _).2 rfl;rw[this]at h;cases h
theorem MW{x:ID}{e:Bool}{n:Int}(hx:cf x=true)(ht:kI n=true):bB (PS x e n)=0:=by
 unfold bB;rw[if_neg (by simp[PS]),if_neg (by simp[PS]),if_neg (by simp[PS,hx]),if_neg,if_neg (by simp[PS]),if_neg (by simp[PS]),if_neg (by simp[PS]),if_pos (show(PS x e n).1=8 from rfl)]
 ·exact if_pos ht
 intro h;have:qa (jL (PS x e n)) J7=true:=(im _ _).2 rfl;rw[this]at h;cases h
theorem YY:OP 0:=by unfold OP;omega
theorem MX{l:List ah}(hs:cc l){v w:ah}(hv:v∈l)(hw:w∈l)(h:w.1=v.1):w=v:=by have h1:=iq hs hv;have h2:=iq hs hw;rw[h,h1]at h2;exact(acv h2).symm
structure Lay(s t:StateT):Prop where
 v:cc t.1.1
 e:dt t.1.2
 sm:Sm t.1
 g:t.2.length≤50000000
theorem Jh(l:List ai):(ends l).length=2*l.length:=by
 induction l with
 |nil=>rfl
 |cons e r ih=>rw[j5];simp[ih];omega
theorem VO{l:List ah}{v:ah}(h:v∈l):v.2.1.length≤(ax l).length:=by obtain⟨a,b,rfl⟩:=aeD h;rw[oT,iL];simp;omega
theorem Wf.qj{d:aj}(h:Wf d):∀v∈d.1,v.2.1.length≤80:=fun v hv=>by have h1:=VO hv;have h2:=h.pd.length_eq;have h3:=h.ne;rw[Jh]at h2;omega
theorem Wf.sm{d:aj}(h:Wf d):Sm d:=⟨by have:=h.nv;omega,by have:=h.ne;omega,fun v hv=>by have:=h.qj v hv;omega⟩
theorem Wf.small{d:aj}(h:Wf d):Sv d.1:=⟨by have:=h.nv;omega,fun v hv=>by have:=h.qj v hv;omega⟩
theorem O7(s:StateT)(o:aR):gG (qy (aP s) (aH o,([],(e0,0)))).1 (qy (aP s) (aH o,([],(e0,0)))).2=qw s o:=by
 by_cases hh:(bg s.1.1 (aH o)).isSome=true
 ·have a:qy (aP s) (aH o,([],(e0,0)))=(12,aP s):=if_pos hh;have b:qw s o=(zS,(12,())):=if_pos hh;rw[a,b];rfl
 by_cases h:24≤s.1.1.length
 ·have a:qy (aP s) (aH o,([],(e0,0)))=(3,aP s):=(if_neg hh).trans (if_pos h);have b:qw s o=(zS,(3,())):=(if_neg hh).trans (if_pos h);rw[a,b];rfl
 ·have a:qy (aP s) (aH o,([],(e0,0)))=(0,(eO (aH o,([],(e0,0))) (aP s).1,(aP s).2)):=(if_neg hh).trans (if_neg h);have b:qw s o=(((eO (aH o,([],(e0,0))) s.1.1,s.1.2),s.2),(0,())):=(if_neg hh).trans (if_neg h);rw[a,b];rfl
theorem O8{s:StateT}(h:eP s)(o:aR):gG (EM (aP s) (aH o)).1 (EM (aP s) (aH o)).2=zm s o:=by
 unfold EM zm aQ;show gG (match bg s.1.1 (aH o) with|none=>(13,aP s)|some v=>if 0<v.2.1.length then(14,aP s) else(0,(dG s.1.1 (aH o),(s.1.2,(s.2,())))):Int×ba).1 (match bg s.1.1 (aH o) with|none=>(13,aP s)|some v=>if 0<v.2.1.length then(14,aP s) else(0,(dG s.1.1 (aH o),(s.1.2,(s.2,())))):Int×ba).2=_
 cases bg s.1.1 (aH o) with
 |none=>rfl
 |some v =>
  simp only;by_cases hl:0<v.2.1.length
  ·rw[if_pos hl,if_pos hl];rfl
  ·rw[if_neg hl,if_neg hl];unfold bj;rw[we h.d.ge];rfl
def MY(s:StateT)(o:aR):StateT×(Int×Unit) :=if o.1=1 then qw s o else if o.1=2 then zm s o else if o.1=3 then oP s o else if o.1=4 then DX s o else if o.1=5 then mA s o else if o.1=6 then ki s o else xI s o
theorem E2(s:StateT)(o:aR):c8 s o=if bB o≠0 then(zS,(bB o,())) else MY s o:=rfl
theorem Ji(hG:HG G)(s:StateT)(o:aR)(h:eP s)(hm:bB o=0)(h3:o.1=3→∃(e:Int) (w:ba),FX G 154 oD ((o,()),(aP s,()))=some ((e,()),(w,()))∧gG e w=oP s o) :
  ∃(e:Int) (w:ba),FX G 131 BJ ((o,()),(aP s,()))=some ((e,()),(w,()))∧gG e w=MY s o:=by
 have hk:=mD hm;have VP:=h.d.small;have UG:=h.d.nv;have bw:=h.d.ne;have start:∀(e:Int) (w:ba),bS 131 BJ Tryz.f131 (FX G) (LX G 131 BJ Tryz.f131) ((o,()),(aP s,()))=some ((e,()),(w,()))→FX G 131 BJ ((o,()),(aP s,()))=some ((e,()),(w,())):=fun e w a =>az (hG _ _ rfl) a rfl;unfold MY;by_cases h1:o.1=1
 ·rw[if_pos h1];refine⟨_,_,start _ _ ((KU).trans (af (G7 h1) (aa (YR hG (aP s) (aH o,([],(e0,0))) h.d.sv VP.n) rfl))),?_⟩;exact O7 s o
 rw[if_neg h1];by_cases h2:o.1=2
 ·rw[if_pos h2];refine⟨_,_,start _ _ ((KU).trans (ag (zn h1) (af (G7 h2) (aa (aie hG (aP s) o h.d.sv VP.n) rfl)))),?_⟩;exact O8 h o
 rw[if_neg h2];by_cases PQ:o.1=3
 ·rw[if_pos PQ];obtain⟨e,w,a,b⟩:=h3 PQ;exact⟨e,w,start _ _ ((KU).trans (ag (zn h1) (ag (zn h2) (af (G7 PQ) (aa a rfl))))),b⟩
 rw[if_neg PQ];by_cases hk4:o.1=4
 ·rw[if_pos hk4];obtain⟨e,w,a,b⟩:=aiq hG s o h VP;exact⟨e,w,start _ _ ((KU).trans (ag (zn h1) (ag (zn h2) (ag (zn PQ) (af (G7 hk4) (aa a rfl)))))),b⟩
 rw[if_neg hk4];by_cases YW:o.1=5
 ·rw[if_pos YW];obtain⟨e,w,a,b⟩:=aiu hG s o h VP hm YW;exact⟨e,w,start _ _ ((KU).trans (ag (zn h1) (ag (zn h2) (ag (zn PQ) (ag (zn hk4) (af (G7 YW) (aa a rfl))))))),b⟩
 rw[if_neg YW];by_cases hk6:o.1=6
 ·rw[if_pos hk6];obtain⟨e,w,a,b⟩:=aiA hG s o h VP;exact⟨e,w,start _ _ ((KU).trans (ag (zn h1) (ag (zn h2) (ag (zn PQ) (ag (zn hk4) (ag (zn YW) (af (G7 hk6) (aa a rfl)))))))),b⟩
 rw[if_neg hk6];refine⟨_,_,Td hG (aP s) o (by omega) h.d.sv h.d.se VP.n (by show s.1.2.length≤_;omega),?_⟩;exact O5 s o
theorem CU(hG:HG G)(s:StateT)(o:aR)(h:eP s)(hf:Fit o)(h3:bB o=0→o.1=3→∃(e:Int) (w:ba),FX G 154 oD ((o,()),(aP s,()))=some ((e,()),(w,()))∧gG e w=oP s o) :
  FX G 73 H6 ((s,o,()),())=some (c8 s o,()):=by
 rw[E2];have hn:=h.n;by_cases hm:bB o=0
 ·obtain⟨e,w,a,b⟩:=Ji hG s o h hm (h3 hm);refine(VG hG s o (YS hG o hf) h.d.sm (by omega) (fun _=>a)).trans ?_;rw[hm,if_neg (by simp),b];rfl
 ·rw[if_pos hm];refine az (hG _ _ rfl) aa4 ?_;refine aa (YS hG o hf) ?_;exact af (by simpa using hm) rfl
def nR(G:(f:FuncId)→(g:aS)→Option (g.A→Option g.B))(o:aR):Prop:=∀s,eP s→bB o=0→o.1=3→∃(e:Int) (w:ba),FX G 154 oD ((o,()),(aP s,()))=some ((e,()),(w,()))∧gG e w=oP s o
theorem Te{s:StateT}{o:aR}(hm:bB o=0):MY s o=c8 s o:=by rw[E2,if_neg (by simp[hm])]
theorem aiE(hG:HG G)(l:List aR)(hl:l.length≤1073741824)(hm:∀o∈l,bB o=0)(h3:∀o∈l,nR G o):∀(n i:Nat) (s:StateT),i+n=l.length→eP s → LX G 103 DQ Tryz.f103 Cd (aO Tryz.prog 103 0) ((l,(((l.length:Nat):Int),((i:Int),()))),((zW,(aP s,())),()))=some (qb (l.drop i) s,()):=by
 intro n
 induction n with
 |zero =>intro i s hi hw;refine ao Ga ?_;refine ag (decide_eq_false (show ¬((i:Int)<((l.length:Nat):Int)) by omega)) ?_;rw[List.drop_eq_nil_of_le (by omega)];rfl
 |succ n ih =>
  intro i s hi hw;have aF:i<l.length:=by omega
  have ho:=hm l[i] (adg aF);obtain⟨e,w,h1,h2⟩:=Ji hG s l[i] hw ho (h3 _ (adg aF) s hw ho);rw[Te ho]at h2;refine ao Ga ?_;refine af (aY aF) (aa (aA (aaV aF)) ?_);refine aa h1 ?_;rw[List.drop_eq_getElem_cons aF,qb];have Fw:=hw.one l[i];by_cases he:e=0
  ·have e1:gG e w=(Av w,(0,())):=if_neg (by simp[he]);rw[e1]at h2;rw[←h2]at Fw ⊢;rw[if_neg (by simp)];refine ag (show(e != 0)=false by simp[he]) ?_;have:=ih (i+1) (Av w) (by omega) Fw;rw[←aD aF hl]at this;exact this
  ·have e1:gG e w=(zS,(e,())):=if_pos he;rw[e1]at h2;rw[←h2,if_pos he];exact af (show(e != 0)=true by simp[he]) rfl
theorem YZ(hG:HG G)(s:StateT)(l:List aR)(hw:eP s)(hl:l.length≤1073741824)(hm:∀o∈l,bB o=0)(h3:∀o∈l,nR G o):FX G 103 DQ ((s,l,()),())=some (qb l s,()):=by have hn:=hw.n;refine az (hG _ _ rfl) aa5 ?_;refine aa (YQ hG s.1 hw.d.sm) ?_;refine aa (VF (hG _ _ rfl) s.2 (by omega)) ?_;have:=aiE hG l hl hm h3 l.length 0 s (by omega) hw;rw[List.drop_zero]at this;exact this
theorem Jj(l:List aR)(h:kJ l=0):∀o∈l,bB o=0:=by
 induction l with
 |nil=>intro o ho;simp at ho
 |cons o r ih =>
  rw[kJ]at h;by_cases ho:bB o=0
  ·rw[if_neg (fun k=>k ho)]at h;intro p hp;rcases aa1.1 hp with e|hp
   ·rw[e];exact ho
   ·exact ih h p hp
  ·rw[if_pos ho]at h;exact absurd h ho
theorem Lm{l:List aR}(h:eF l=0):∀o∈l,bB o=0:=by
 unfold eF at h
 split at h
 ·exact Jj l h
 ·cases h
theorem aiF(hG:HG G)(s:StateT)(l:List aR)(hw:eP s)(hl:l.length≤1073741824)(hf:∀o∈l,Fit o)(h3:∀o∈l,nR G o):FX G 63 Ra ((s,l,()),())=some (c7 s l,()):=by
 refine az (hG _ _ rfl) agq ?_;refine aa (aim hG l hl hf) ?_;unfold c7;by_cases hm:eF l=0
 ·rw[if_neg (by simp[hm])];refine ag (show(eF l != 0)=false by simp[hm]) ?_;exact aa (YZ hG s l hw hl (Lm hm) h3) rfl
 ·rw[if_pos hm];exact af (show(eF l != 0)=true by simp[hm]) rfl
end Go.Vs
