/- Edges cut and split -/
import Derived.Test.YtpkfpbpbkabkdaaGreatFormed
import Derived.Test.YtpkfpbpbkabkdaaGreatTop
set_option linter.unusedVariables false
set_option linter.unusedSimpArgs false
namespace Go.Vs
open Go.Proofs
variable {G:(f:FuncId)→(g:aS)→Option (g.A→Option g.B)}
theorem Xw(hG:HG G)(v:aB)(x:ae):FX G 232 Ev ((v,x,()),())=some ((mo v.1 x,()),()):=by refine az (hG _ _ rfl) abI ?_;exact aa (Xs hG v.1 x) rfl
def dB(l:List aB)(x:ae):Nat:=l.countP fun v=>kF v.1 x
theorem GD(l:List aB)(x:ae):dB l x≤l.length:=aeL
theorem xS{l:List aB}{x:ae}(h:∀v∈l,kF v.1 x=false):dB l x=0:=by unfold dB;rw[List.countP_eq_zero];intro v hv;simp[h v hv]
theorem ES{x:ae}:∀{l:List aB},iV l→∀(k:Nat) (v:aB),l[k]? = some v→(kF v.1 x=true↔k<dB l x)
 |[],_,k,v,h=>by simp at h
 |w::r,hs,k,v,h=>by
  have hw:∀{u:aB},u∈r→kF w.1 u.1=true:=fun {u} hu=>adF hs hu;have hr:iV r:=hs.of_cons;by_cases aF:kF w.1 x=true
  ·have e:dB (w::r) x=dB r x+1:=by unfold dB;rw[List.countP_cons_of_pos (by simpa using aF)]
   cases k with
   |zero=>simp at h;subst h;simp[aF,e]
   |succ k=>have:=ES (x:=x) hr k v (by simpa using h);rw[this,e];omega
  ·have hn:∀u∈w::r,kF u.1 x=false:=fun u hu=>by
    rcases acp.1 hu with rfl|hu
    ·simpa using aF
    ·rw[Bool.eq_false_iff];intro h2;exact aF (fS (hw hu) h2)
   rw[xS hn,hn v (List.mem_of_getElem? h)];simp
theorem SY(hG:HG G)(l:List aB)(x:ae)(hs:iV l)(hl:l.length≤50000000):∀(n i j:Nat),j-i≤n→i≤dB l x→dB l x≤j→j≤l.length → LX G 233231 jv Tryz.f231 iH (aO Tryz.prog 231 0) ((l,(((l.length:Nat):Int),((i:Int),((j:Int),())))),(((x,()),()),()))=some (((((dB l x:Nat):Int),(decide ((l[dB l x]?).map (·.1)=some x),())):Int×(Bool×Unit)),()):=by
 have tM:=GD l x;have fin:∀(i j:Nat),¬(i<j)→i≤dB l x→dB l x≤j→LX G 233231 jv Tryz.f231 iH (aO Tryz.prog 231 0) ((l,(((l.length:Nat):Int),((i:Int),((j:Int),())))),(((x,()),()),()))=some (((((dB l x:Nat):Int),(decide ((l[dB l x]?).map (·.1)=some x),())):Int×(Bool×Unit)),()):=fun i j zQ h1 h2=>by
  have hi:i=dB l x:=by omega
  subst hi;refine ao Cm ?_;refine ag (decide_eq_false (show ¬(((dB l x:Nat):Int)<(j:Int)) by omega)) ?_;by_cases hc:dB l x<l.length
  ·have hx:l[dB l x]? = some l[dB l x]:=aaY hc;refine af (aY hc) ?_;refine aa (aA hx) ?_;refine aa (Xw hG l[dB l x] x) ?_;refine congrArg (fun b:Bool=>some ((((dB l x:Nat):Int),(b,())),())) ?_;rw[hx];unfold mo;by_cases he:l[dB l x].1=x
   ·simp[he]
   ·simp[he];split<;>simp
  ·refine ag (decide_eq_false (show ¬(((dB l x:Nat):Int)<((l.length:Nat):Int)) by omega)) ?_;refine congrArg (fun b:Bool=>some ((((dB l x:Nat):Int),(b,())),())) ?_;rw[List.getElem?_eq_none (by omega)];simp
 intro n
 induction n with
 |zero=>intro i j zQ h1 h2 h3;exact fin i j (by omega) h1 h2
 |succ n ih =>
  intro i j zQ h1 h2 h3;by_cases aF:i<j
  case neg=>exact fin i j aF h1 h2
  refine ao Cm ?_;refine af (decide_eq_true (show((i:Int)<(j:Int)) by omega)) ?_;refine ag rfl ?_;have hm:=Lb (i:=i) (j:=j) (by omega) (by omega);have hh:(i+j) / 2<l.length:=by omega
  have hx:l[(i+j) / 2]? = some l[(i+j) / 2]:=aaY hh;have ow:=ES (x:=x) hs ((i+j) / 2) _ hx;refine aa (show aT l (IntKind.wrap .i64 (lf .u64 (IntKind.wrap .u64 (IntKind.wrap .i64 ((i:Int)+(j:Int)))) (1:Int)))=some l[(i+j) / 2] by rw[hm];exact aA hx) ?_;refine aa (Xw hG l[(i+j) / 2] x) ?_;by_cases ho:kF l[(i+j) / 2].1 x=true
  ·refine af (decide_eq_true ((sH _ _).2 ho)) ?_;have hc:=ow.1 ho;have hw:IntKind.wrap .i64 (IntKind.wrap .i64 (lf .u64 (IntKind.wrap .u64 (IntKind.wrap .i64 ((i:Int)+(j:Int)))) (1:Int))+1)=(((i+j) / 2+1:Nat):Int):=by rw[hm];exact aD hh (by omega)
   have:=ih ((i+j) / 2+1) j (by omega) (by omega) h2 h3;rw[←hw]at this;exact this
  ·refine ag (decide_eq_false (fun h=>ho ((sH _ _).1 h))) ?_;have hc:¬(i+j) / 2<dB l x:=fun h=>ho (ow.2 h);have:=ih i ((i+j) / 2) (by omega) h1 (by omega) (by omega);rw[←hm]at this;exact this
theorem SZ(hG:HG G)(l:List aB)(x:ae)(hs:iV l)(hl:l.length≤50000000) :
  FX G 233231 jv ((l,x,()),())=some (((((dB l x:Nat):Int),(decide ((l[dB l x]?).map (·.1)=some x),())):Int×(Bool×Unit)),()):=by
 refine az (hG _ _ rfl) Sa ?_;exact SY hG l x hs hl l.length 0 l.length (by omega) (by omega) (GD l x) (adj _)
theorem I8(g:aB):∀{l:List aB},iV l→lp g l=if(l[dB l g.1]?).map (·.1)=some g.1 then l.set (dB l g.1) g else l.take (dB l g.1)++(g::l.drop (dB l g.1))
 |[],_=>rfl
 |w::r,hs=>by
  have hw:∀{u:aB},u∈r→kF w.1 u.1=true:=fun {u} hu=>adF hs hu;have hr:iV r:=aeX hs;by_cases aF:kF w.1 g.1=true
  ·have e:dB (w::r) g.1=dB r g.1+1:=by unfold dB;rw[List.countP_cons_of_pos (by simpa using aF)]
   have bw:w.1≠g.1:=fun k=>by rw[k,dR]at aF;cases aF
   have qU:¬mo g.1 w.1≤0:=fun k=>by
    rcases qe.1 k with k|k
    ·exact bw k.symm
    ·have:=fS aF k;rw[dR]at this;cases this
   have ih:=I8 g hr;rw[e,lp,if_neg qU,if_pos bw,ih];simp only[List.getElem?_cons_succ,List.set_cons_succ,List.take_succ_cons,List.drop_succ_cons,List.cons_append]
   split<;>rfl
  ·have hn:∀u∈w::r,kF u.1 g.1=false:=fun u hu=>by
    rcases acp.1 hu with rfl|hu
    ·simpa using aF
    ·rw[Bool.eq_false_iff];intro h2;exact aF (fS (hw hu) h2)
   rw[xS hn];by_cases he:w.1=g.1
   ·have YR:mo g.1 w.1≤0:=qe.2 (.inl he.symm);have h1:nP g (w::r)=r:=by
     have:nP g (w::r)=nP g r:=by unfold nP;rw[List.filter_cons_of_neg (by simp[he])]
     rw[this];exact sL (fun q hq k=>by have:=hw hq;rw[k,he,dR]at this;cases this)
    rw[lp,if_pos YR,h1,if_pos (by simp[he])];rfl
   ·have J1:kF g.1 w.1=true:=xM (by simpa using aF) he;have YR:mo g.1 w.1≤0:=qe.2 (.inr J1);have h1:nP g (w::r)=w::r:=sL (fun q hq k=>by
     rcases acp.1 hq with rfl|hq
     ·exact he k
     ·have:=fS J1 (hw hq);rw[k,dR]at this;cases this)
    rw[lp,if_pos YR,h1,if_neg (by simp[he])];rfl
theorem ET{x:ae}:∀{l:List aB},iV l→(gy l x).isSome=decide ((l[dB l x]?).map (·.1)=some x)
 |[],_=>rfl
 |w::r,hs=>by
  have hw:∀{u:aB},u∈r→kF w.1 u.1=true:=fun {u} hu=>adF hs hu;have hr:iV r:=aeX hs;rw[qf];by_cases aF:kF w.1 x=true
  ·have e:dB (w::r) x=dB r x+1:=by unfold dB;rw[List.countP_cons_of_pos (by simpa using aF)]
   have bw:w.1≠x:=fun k=>by rw[k,dR]at aF;cases aF
   rw[e,if_neg bw,ET hr,List.getElem?_cons_succ]
  ·have hn:∀u∈w::r,kF u.1 x=false:=fun u hu=>by
    rcases acp.1 hu with rfl|hu
    ·simpa using aF
    ·rw[Bool.eq_false_iff];intro h2;exact aF (fS (hw hu) h2)
   rw[xS hn];by_cases he:w.1=x
   ·simp[he]
   ·have J1:kF x w.1=true:=xM (by simpa using aF) he;have:gy r x=none:=by
     unfold gy;have:(List.find? (fun q=>decide (q.1=x)) r)=none:=by
      rw[List.find?_eq_none];intro q hq k;have k:q.1=x:=by simpa using k
      have:=fS J1 (hw hq);rw[k,dR]at this;cases this
     rw[this];rfl
    rw[if_neg he,this];simp[he]
theorem ac3(hG:HG G)(l:List aB)(g:aB)(hs:iV l)(hl:l.length≤50000000):FX G 215 Io ((l,g,()),())=some ((bQ l g,()),()):=by
 refine az (hG _ _ rfl) aby ?_;refine aa (SZ hG l g.1 hs hl) ?_;refine aa (VA (hG _ _ rfl) l hl) ?_;unfold bQ;rw[ET hs,I8 g hs];have hc:dB l g.1≤l.length:=GD l g.1;by_cases h:(l[dB l g.1]?).map (·.1)=some g.1
 ·rw[decide_eq_true h,if_neg (fun k=>by cases k.1),if_pos h];refine af rfl ?_;obtain⟨u,hu,_⟩:∃u,l[dB l g.1]? = some u∧u.1=g.1:=by
   cases hq:l[dB l g.1]? with
   |none=>rw[hq]at h;cases h
   |some u=>rw[hq]at h;exact⟨u,rfl,by simpa using h⟩
  have aF:=(aci.1 hu).1;refine af (c8 (fi _) (aY aF)) ?_;exact aa hu rfl
 ·rw[decide_eq_false h,if_neg h];refine ag rfl ?_;by_cases h4:400≤l.length
  ·rw[if_pos ⟨rfl,h4⟩];exact ag (decide_eq_false (show ¬((l.length:Nat):Int)<400 by omega)) rfl
  ·rw[if_neg (fun k=>h4 k.2)];refine af (decide_eq_true (show((l.length:Nat):Int)<400 by omega)) ?_;have mF:qI l ((dB l g.1:Nat):Int) [g]=true:=by unfold qI;rw[decide_eq_true (show(0:Int)≤((dB l g.1:Nat):Int) by omega),decide_eq_true (show((dB l g.1:Nat):Int)≤((l.length:Nat):Int) by omega)];rw[fits (by simp;omega)];rfl
   refine af mF ?_;have e:gj l ((dB l g.1:Nat):Int) [g]=l.take (dB l g.1)++(g::l.drop (dB l g.1)):=by unfold gj;simp
   exact congrArg (fun r:List aB=>some ((r,()),())) e
theorem EU(hG:HG G)(w:ba)(x to:ae)(hs:iV w.2.2.1)(hl:w.2.2.1.length≤50000000):FX G 183 BI ((x,to,()),(w,()))=some ((),((w.1,(w.2.1,(bQ w.2.2.1 (x,to),()))),())):=by refine az (hG _ _ rfl) abg ?_;exact aa (ac3 hG w.2.2.1 (x,to) hs hl) rfl
theorem EV(hG:HG G)(w:ba)(x:ae)(hw:Rw w.1)(hl:w.1.length≤50000000)(hr:∀v∈w.1,v.2.1.length≤50000000){k:Nat}{v:ah}(hk:w.1[k]? = some v)(hx:x∈v.2.1) :
  FX G 185 mb ((x,()),(w,()))=some (((some ((⟨0,by decide⟩:Fin 1),k)),()),(w,())):=by
 refine az (hG _ _ rfl) abi ?_;have P4:=(aci.1 hk).1;have loop:∀(n i:Nat),i+n=k→LX G 185 mb Tryz.f185 vB (aO Tryz.prog 185 0) ((((w.1.length:Nat):Int),((i:Int),())),((w,((x,()),())),()))=some (((some ((⟨0,by decide⟩:Fin 1),k)),()),(w,())):=by
  intro n
  induction n with
  |zero =>
   intro i hi;have hi:i=k:=by omega
   subst hi;refine ao Mk ?_;refine af (aY P4) (af (c8 (fi _) (aY P4)) (aa hk ?_));refine aa (EK hG v.2.1 x (by have:=hr v (adh hk);omega)) ?_;exact af (decide_eq_true hx) rfl
  |succ n ih =>
   intro i hi;have m0:i<w.1.length:=by omega
   have hu:w.1[i]? = some w.1[i]:=aaY m0;have Ei:x∉w.1[i].2.1:=fun hxi=>by have h1:w.1[i]=v:=hw.one (adh hk) (adv m0) hx hxi;have h2:=jZ hw.s hk rfl;have h3:=jZ hw.s (x:=v.1) hu (by rw[h1]);omega
   refine ao Mk ?_;refine af (aY m0) (af (c8 (fi _) (aY m0)) (aa hu ?_));refine aa (EK hG w.1[i].2.1 x (by have:=hr _ (adv m0);omega)) ?_;refine ag (decide_eq_false Ei) ?_;have:=ih (i+1) (by omega);rw[←aD m0 (by omega)]at this;exact this
 exact loop k 0 (by omega)
theorem Lh{l:List ah}{k:Nat}{v:ah}(hs:b8 l)(hk:l[k]? = some v)(r:List ae):l.set k (v.1,(r,v.2.2))=l.map (sB v.1 r):=by
 have h:=ij hs (adh hk);rw[jZ hs hk rfl];refine(I2 hs h (sB v.1 r) (fun u=>(u.1,(r,u.2.2))) (fun u hu=>?_) (fun u hu=>?_)).symm
 ·unfold sB;rw[if_pos hu]
 ·unfold sB;rw[if_neg hu]
theorem rH{l:List ah}{x:ae}(h:x∈ax l):∃(k:Nat) (v:ah),l[k]? = some v∧x∈v.2.1∧v∈l:=by obtain⟨v,hv,hx⟩:=bh.1 h;obtain⟨k,hk,he⟩:=aeO hv;exact⟨k,v,by rw[List.getElem?_eq_getElem hk,he],hx,hv⟩
structure Sv(l:List ah):Prop where
 n:l.length≤50000000
 r:∀v∈l,v.2.1.length≤50000000
theorem S4{n:Int}(h:n=0∨n=1):cX .xor .i64 n 1=IntKind.wrap .i64 (1-n):=by rcases h with rfl|rfl<;>decide
theorem I9(hG:G 188 oD=none)(x:ae)(h:x.2=0∨x.2=1):FX G 188 oD ((x,()),())=some ((au x,()),()):=by refine az hG abl ?_;exact congrArg (fun n:Int=>some ((((x.1,n):ae),()),())) (S4 h)
theorem OY{d:aj}(h:Rw d.1){v:ah}{x:ae}(hv:v∈d.1)(hx:x∈v.2.1):dt d x=if(dF v.2.1 x).1=x.1 then(if(dF v.2.1 (dF v.2.1 x)).1=x.1 then zD else dF v.2.1 (dF v.2.1 x)) else dF v.2.1 x:=by
 unfold dt;have e:aW d ((bP d x).getD zI)=v.2.1:=by unfold bP;rw[iJ h hv hx];exact iU h.s hv
 simp only[e];by_cases h1:(dF v.2.1 x).1=x.1
 ·simp only[if_pos h1]
 ·simp only[if_neg h1]
theorem Xx(hG:HG G)(w:ba)(x:ae)(hw:Rw w.1)(hs:Sv w.1)(hx:x∈ax w.1)(e:List ai):FX G 184 BJ ((x,()),(w,()))=some ((dt (w.1,e) x,()),(w,())):=by
 obtain⟨k,v,hk,jF,hv⟩:=rH hx;have PE:=hs.r v hv;refine az (hG _ _ rfl) abh ?_;rw[OY (d:=(w.1,e)) hw hv jF];have prev:∀y:ae,FX G 140 BN ((v.2.1,y,()),())=some (((dF v.2.1 y),((wF (cC v.2.1 y (v.2.1.length-1))).2)),()):=fun y=>by refine(Xv hG v.2.1 y (by omega)).trans ?_;have:(wF (cC v.2.1 y (v.2.1.length-1))).1=dF v.2.1 y:=sD _;rw[←this]
 have bZ:∀y:ae,((y.1.1==x.1.1)&&(y.1.2==x.1.2))=decide (y.1=x.1):=fun y=>gM y.1 x.1;refine ao F8 ?_;refine af rfl (aa (EV hG w x hw hs.n hs.r hk jF) ?_);refine tz rfl (af rfl (aa hk ?_));refine aa (prev x) ?_;by_cases h1:(dF v.2.1 x).1=x.1
 ·rw[if_pos h1];refine aV ((bZ _).trans (decide_eq_true h1)) ?_;refine ao F8 ?_;refine af rfl (aa (EV hG w x hw hs.n hs.r hk jF) ?_);refine tz rfl (af rfl (aa hk ?_));refine aa (prev (dF v.2.1 x)) ?_;by_cases h2:(dF v.2.1 (dF v.2.1 x)).1=x.1
  ·rw[if_pos h2];refine aV ((bZ _).trans (decide_eq_true h2)) ?_;refine ao F8 ?_;exact ag rfl rfl
  ·rw[if_neg h2];exact aV ((bZ _).trans (decide_eq_false h2)) rfl
 ·rw[if_neg h1];exact aV ((bZ _).trans (decide_eq_false h1)) rfl
theorem Ja{l:List ai}{x:ID}(hs:dr l)(h:(aX l x).isSome=true)(hl:l.length≤50000000) :
  jG l ((cf l x:Nat):Int) (IntKind.wrap .i64 (((cf l x:Nat):Int)+1))=true∧dy l ((cf l x:Nat):Int) (IntKind.wrap .i64 (((cf l x:Nat):Int)+1))=db l x:=by
 obtain⟨e,he⟩:=adq.1 h;have aF:=(aci.1 (mz hs he)).1;have hw:IntKind.wrap .i64 (((cf l x:Nat):Int)+1)=((cf l x+1:Nat):Int):=aD aF (by omega);constructor
 ·rw[hw];unfold jG;rw[decide_eq_true (show(0:Int)≤((cf l x:Nat):Int) by omega),decide_eq_true (show((cf l x:Nat):Int)<((cf l x+1:Nat):Int) by omega),decide_eq_true (show((cf l x+1:Nat):Int)≤((l.length:Nat):Int) by omega),fits (by omega)];rfl
 ·rw[hw,xK hs h];unfold dy;simp only[Int.toNat_natCast]
theorem S5{l:List ah}{x:ID}(hs:b8 l)(h:(bg l x).isSome=true)(hl:l.length≤50000000) :
  jG l ((bJ l x:Nat):Int) (IntKind.wrap .i64 (((bJ l x:Nat):Int)+1))=true∧dy l ((bJ l x:Nat):Int) (IntKind.wrap .i64 (((bJ l x:Nat):Int)+1))=dE l x:=by
 obtain⟨e,he⟩:=adq.1 h;have aF:=(aci.1 (dn hs he)).1;have hw:IntKind.wrap .i64 (((bJ l x:Nat):Int)+1)=((bJ l x+1:Nat):Int):=aD aF (by omega);constructor
 ·rw[hw];unfold jG;rw[decide_eq_true (show(0:Int)≤((bJ l x:Nat):Int) by omega),decide_eq_true (show((bJ l x:Nat):Int)<((bJ l x+1:Nat):Int) by omega),decide_eq_true (show((bJ l x+1:Nat):Int)≤((l.length:Nat):Int) by omega),fits (by omega)];rfl
 ·rw[hw,xH hs h];unfold dy;simp only[Int.toNat_natCast]
theorem Sv.re{l:List ah}(h:Sv l)(x:ID){r:List ae}(hr:r.length≤50000000):Sv (l.map (sB x r)):=by
 refine⟨by simp;exact h.n,fun w hw=>?_⟩;obtain⟨u,hu,rfl⟩:=adE.1 hw;unfold sB
 split
 ·exact hr
 ·exact h.r u hu
theorem CN{row:List ae}(d:ae):(cx row d).length≤row.length:=by unfold cx;rw[gx];exact aew _ _
theorem MR{w:ba}{x:ae}(hw:Rw w.1){k:Nat}{v:ah}(hk:w.1[k]? = some v)(hx:x∈v.2.1)(e:List ai):w.1.set k (v.1,(cx v.2.1 x,v.2.2))=(aJ (w.1,e) x).1:=by rw[j5 (d:=(w.1,e)) hw (List.mem_of_getElem? hk) hx];exact Lh hw.s hk _
theorem ail(hG:HG G)(s:StateT)(o:aR)(h:eO s)(hs:Sv s.1.1) :
  ∃(e:Int) (w:ba),FX G 155 BE ((o,()),(aP s,()))=some ((e,()),(w,()))∧gF e w=DQ s o:=by
 have bw:=h.d.ne;unfold DQ
 cases hf:(aX s.1.2 (aH o)).isSome with
 |false =>
  refine⟨13,aP s,?_,?_⟩
  ·refine az (hG _ _ rfl) aa1 ?_;refine aa (oQ hG (aP s) (aH o) h.d.se (by show s.1.2.length≤_;omega)) ?_;exact aV ((du (l:=s.1.2) h.d.se).trans hf) rfl
  ·rw[if_pos (show(bZ s.1 (aH o)).isSome=false from hf)];rfl
 |true =>
  rw[if_neg (show ¬(bZ s.1 (aH o)).isSome=false by show ¬(aX s.1.2 (aH o)).isSome=false;rw[hf];simp)];obtain⟨x,hx⟩:∃x:ae,x=(aH o,0):=⟨_,rfl⟩;obtain⟨y,hy⟩:∃y:ae,y=(aH o,1):=⟨_,rfl⟩;have hxd:x∈ax s.1.1:=by rw[hx];exact h.d.jA hf (.inl rfl)
  have hyd:y∈ax s.1.1:=by rw[hy];exact h.d.jA hf (.inr rfl)
  have g1:=j7 h.g h.n (x,dt s.1 x);have hn:=h.n;obtain⟨p1,q1⟩:=fF h.d.rw hxd;have ain:y∈ax (aJ s.1 x).1:=by
   rcases acp.1 (p1.mem_iff.1 hyd) with k|k
   ·rw[hx,hy]at k;cases k
   ·exact k
  have PM:=j6 (j6 h.d.gv x) y;refine⟨0,((aJ (aJ s.1 x) y).1,(db s.1.2 (aH o),(bQ (bQ s.2 (x,dt s.1 x)) (y,dt s.1 y),()))),?_,?_⟩
  ·refine az (hG _ _ rfl) aa1 ?_;refine aa (oQ hG (aP s) (aH o) h.d.se (by show s.1.2.length≤_;omega)) ?_;refine aV ((du (l:=s.1.2) h.d.se).trans hf) (ag rfl ?_);have aio:FX G 179 BF ((aH o,()),())=some ((x,y,()),()):=by rw[hx,hy];exact az (hG _ _ rfl) Xa rfl
   refine aa aio ?_;refine ao KS ?_;refine af rfl (af rfl (aa (a:=x) rfl ?_));refine aa (Xx hG (aP s) x h.d.rw hs hxd s.1.2) ?_;refine aa (EU hG (aP s) x (dt s.1 x) h.g (by show s.2.length≤_;omega)) ?_;refine ao KS ?_;refine af rfl (af rfl (aa (a:=y) rfl ?_));refine aa (Xx hG (s.1.1,(s.1.2,(bQ s.2 (x,dt s.1 x),()))) y h.d.rw hs hyd s.1.2) ?_;refine aa (EU hG (s.1.1,(s.1.2,(bQ s.2 (x,dt s.1 x),()))) y (dt s.1 y) g1.1 (by have:=g1.2;show(bQ s.2 (x,dt s.1 x)).length≤_;omega)) ?_;refine ao KS ?_;refine ag rfl ?_;generalize bQ (bQ s.2 (x,dt s.1 x)) (y,dt s.1 y)=gg;obtain⟨k,v,hk,jF,hv⟩:=rH hxd;refine ao KT ?_;refine af rfl (af rfl (aa (a:=x) rfl ?_));refine aa (EV hG (s.1.1,(s.1.2,(gg,()))) x h.d.rw hs.n hs.r hk jF) ?_;refine tz rfl (af rfl (aa hk ?_));refine aa (SS hG v.2.1 x (h.d.rw.ring hv) (hs.r v hv)) ?_;refine aa hk ?_;have e1:s.1.1.set k (v.1,(cx v.2.1 x,v.2.2))=(aJ s.1 x).1:=MR (w:=(s.1.1,(s.1.2,(gg,())))) h.d.rw hk jF s.1.2;have HR:Sv (aJ s.1 x).1:=by rw[j5 h.d.rw hv jF];exact hs.re _ (adC (CN x) (hs.r v hv))
   obtain⟨k2,v2,oZ,Us,yq⟩:=rH ain;have e2:(aJ s.1 x).1.set k2 (v2.1,(cx v2.2.1 y,v2.2.2))=(aJ (aJ s.1 x) y).1:=MR (w:=((aJ s.1 x).1,(s.1.2,(gg,())))) q1 oZ Us (aJ s.1 x).2;have rest:∀a:List ah,a=(aJ s.1 x).1→LX G 155 BE Tryz.f155 xt (aO Tryz.prog 155 1) ((((cf s.1.2 (aH o):Nat):Int),((2:Int),((1:Int),()))),(((a,(s.1.2,(gg,()))),()),([x,y],())))=some (((0:Int),()),(((aJ (aJ s.1 x) y).1,(db s.1.2 (aH o),(gg,()))),())):=by
    intro a ha;subst ha;refine ao KT ?_;refine af rfl (af rfl (aa (a:=y) rfl ?_));refine aa (EV hG ((aJ s.1 x).1,(s.1.2,(gg,()))) y q1 HR.n HR.r oZ Us) ?_;refine tz rfl (af rfl (aa oZ ?_));refine aa (SS hG v2.2.1 y (q1.ring yq) (HR.r v2 yq)) ?_;refine aa oZ ?_;have last:∀b:List ah,b=(aJ (aJ s.1 x) y).1→LX G 155 BE Tryz.f155 xt (aO Tryz.prog 155 1) ((((cf s.1.2 (aH o):Nat):Int),((2:Int),((2:Int),()))),(((b,(s.1.2,(gg,()))),()),([x,y],())))=some (((0:Int),()),(((aJ (aJ s.1 x) y).1,(db s.1.2 (aH o),(gg,()))),())):=by intro b hb;subst hb;refine ao KT ?_;obtain⟨d1,d2⟩:=Ja h.d.se hf (by omega);refine ag rfl (af d1 ?_);exact congrArg (fun l:List ai=>some (((0:Int),()),(((aJ (aJ s.1 x) y).1,(l,(gg,()))),()))) d2
    exact last _ e2
   exact rest _ e1
  ·rw[←hx,←hy];unfold bj;rw[wc PM];rfl
theorem Li{n:Int}(h0:0≤n)(h3:n≤3):cX .xor .i64 1 (cX .and .i64 n 1)=IntKind.wrap .i64 (1-Int.tmod n 2)∧lf .i64 n 1=IntKind.wrap .i64 (Int.tdiv n 2):=by
 have:n=0∨n=1∨n=2∨n=3:=by omega
 rcases this with rfl|rfl|rfl|rfl<;>exact⟨by decide,by decide⟩
theorem Jb{l:List ah}{x:ae}(hw:Rw l){k:Nat}{v:ah}(hk:l[k]? = some v)(hx:x∈v.2.1)(y:ae)(e:List ai):l.set k (v.1,(jI v.2.1 x y,v.2.2))=(aK (l,e) x y).1:=by rw[CH (d:=(l,e)) hw y (List.mem_of_getElem? hk) hx];exact Lh hw.s hk _
theorem aip(hG:HG G)(s:StateT)(o:aR)(h:eO s)(hs:Sv s.1.1)(hm:bB o=0)(YS:o.1=5) :
    ∃(e:Int) (w:ba),FX G 156 zH ((o,()),(aP s,()))=some ((e,()),(w,()))∧gF e w=mw s o:=by
  have bw:=h.d.ne;have UC:=h.d.nv;obtain⟨m1,m2,m3,m4⟩:=xQ hm YS;obtain⟨s1,s2⟩:=I7 m3 m4;obtain⟨c1,c2⟩:=Li m3 m4;have key:∀(e:Int) (w:ba),FX G 156 zH ((o,()),(aP s,()))=some ((e,()),(w,()))→gF e w=mw s o→∃(e:Int) (w:ba),FX G 156 zH ((o,()),(aP s,()))=some ((e,()),(w,()))∧gF e w=mw s o:=fun e w a b=>⟨e,w,a,b⟩;have start:∀(e:Int) (w:ba),bR 156 zH Tryz.f156 (FX G) (LX G 156 zH Tryz.f156) ((o,()),(aP s,()))=some ((e,()),(w,()))→FX G 156 zH ((o,()),(aP s,()))=some ((e,()),(w,())):=fun e w a =>az (hG _ _ rfl) a rfl;unfold mw
  cases hf:(aX s.1.2 (aH o)).isSome with
  |false =>
    refine⟨13,aP s,start _ _ ((Vc).trans ?_),?_⟩
    · refine aa (oQ hG (aP s) (aH o) h.d.se (by show s.1.2.length≤_;omega)) ?_
      refine aa (qu hG (aP s) (dQ o) h.d.sv (by show s.1.1.length≤_;omega)) ?_;refine aa (oQ hG (aP s) (an o) h.d.se (by show s.1.2.length≤_;omega)) ?_;exact aV ((du (l:=s.1.2) h.d.se).trans hf) rfl
    · rw[if_pos (show(bZ s.1 (aH o)).isSome=false from hf)];rfl
  |true =>
  rw[if_neg (show ¬(bZ s.1 (aH o)).isSome=false by show ¬(aX s.1.2 (aH o)).isSome=false;rw[hf];simp)]
  cases UU:(bg s.1.1 (dQ o)).isSome with
  |true =>
    refine⟨12,aP s,start _ _ ((Vc).trans ?_),?_⟩
    · refine aa (oQ hG (aP s) (aH o) h.d.se (by show s.1.2.length≤_;omega)) ?_
      refine aa (qu hG (aP s) (dQ o) h.d.sv (by show s.1.1.length≤_;omega)) ?_;refine aa (oQ hG (aP s) (an o) h.d.se (by show s.1.2.length≤_;omega)) ?_;refine aV ((du (l:=s.1.2) h.d.se).trans hf) (ag rfl ?_);exact af ((fR (l:=s.1.1) h.d.sv).trans UU) rfl
    · rw[if_pos (show(aQ s.1 (dQ o)).isSome=true from UU)];rfl
  |false =>
  rw[if_neg (show ¬(aQ s.1 (dQ o)).isSome=true by show ¬(bg s.1.1 (dQ o)).isSome=true;rw[UU];simp)]
  cases PI:(aX s.1.2 (an o)).isSome with
  |true =>
    refine⟨12,aP s,start _ _ ((Vc).trans ?_),?_⟩
    · refine aa (oQ hG (aP s) (aH o) h.d.se (by show s.1.2.length≤_;omega)) ?_
      refine aa (qu hG (aP s) (dQ o) h.d.sv (by show s.1.1.length≤_;omega)) ?_;refine aa (oQ hG (aP s) (an o) h.d.se (by show s.1.2.length≤_;omega)) ?_;refine aV ((du (l:=s.1.2) h.d.se).trans hf) (ag rfl ?_);refine ag ((fR (l:=s.1.1) h.d.sv).trans UU) ?_;exact af ((du (l:=s.1.2) h.d.se).trans PI) rfl
    · rw[if_pos (show(bZ s.1 (an o)).isSome=true from PI)];rfl
  |false =>
  rw[if_neg (show ¬(bZ s.1 (an o)).isSome=true by show ¬(aX s.1.2 (an o)).isSome=true;rw[PI];simp)];have aiq:bg s.1.1 (dQ o)=none:=by simpa using UU
  have air:aX s.1.2 (an o)=none:=by simpa using PI
  obtain⟨m,PA⟩:∃m:ae,m=J4 o:=⟨_,rfl⟩;obtain⟨kk,UJ⟩:∃m:ae,m=G2 o:=⟨_,rfl⟩;have hmd:m∈ax s.1.1:=by rw[PA];exact h.d.jA hf s1
  have J0:au kk∉ax s.1.1:=by rw[UJ];exact h.d.Ar air _
  obtain⟨p1,q1⟩:=qd h.d.rw hmd J0;have oZ:kk.2=0∨kk.2=1:=by rw[UJ];exact s2
  obtain⟨k,v,hk,jF,hv⟩:=rH hmd;have e1:s.1.1.set k (v.1,(jI v.2.1 m (au kk),v.2.2))=(aK s.1 m (au kk)).1:=Jb h.d.rw hk jF _ s.1.2;have hlen:(aK s.1 m (au kk)).1.length=s.1.1.length:=by unfold aK;exact fG _ _ _
  have VG:bg (aK s.1 m (au kk)).1 (dQ o)=none:=by unfold aK Vs.cm;rw[oP (rE _ _),aiq];rfl
  have eM:((aH o,cX .xor .i64 1 (cX .and .i64 (oN o) 1)):ae)=m:=by rw[PA,c1];rfl
  have eK:((an o,lf .i64 (oN o) 1):ae)=kk:=by rw[UJ,c2];rfl
  have go:∀(e:Int) (w:ba),(∀a:List ah,a=(aK s.1 m (au kk)).1→((FX G 152 Ie (((dQ o,(cw [m,kk],(e0,(0:Int)))),()),((a,(s.1.2,(s.2,()))),()))).bind fun(kV:((Int×Unit)×(ba×Unit))) =>cond (kV.1.1 != (0:Int)) (some (kV.1,((kV.2.1.1,(kV.2.1.2.1,kV.2.1.2.2)),()))) ((FX G 178 yS ((an o,()),((kV.2.1.1,(kV.2.1.2.1,kV.2.1.2.2)),()))).bind fun(o4:((Int×Unit)×(ba×Unit))) =>some (o4.1,((o4.2.1.1,(o4.2.1.2.1,o4.2.1.2.2)),()))))=some ((e,()),(w,())))→FX G 156 zH ((o,()),(aP s,()))=some ((e,()),(w,())):=fun e w rest=>by
    refine start _ _ ((Vc).trans ?_);refine aa (oQ hG (aP s) (aH o) h.d.se (by show s.1.2.length≤_;omega)) ?_;refine aa (qu hG (aP s) (dQ o) h.d.sv (by show s.1.1.length≤_;omega)) ?_;refine aa (oQ hG (aP s) (an o) h.d.se (by show s.1.2.length≤_;omega)) ?_;refine aV ((du (l:=s.1.2) h.d.se).trans hf) (ag rfl ?_);refine ag ((fR (l:=s.1.1) h.d.sv).trans UU) ?_;refine ag ((du (l:=s.1.2) h.d.se).trans PI) ?_;refine ag rfl ?_;have body:∀mm k2:ae,mm=m→k2=kk→((FX G 185 mb ((mm,()),(aP s,()))).bind fun(y4:(((Option ((Fin 1)×Nat))×Unit)×(ba×Unit))) =>qH y4.1.1 (none) fun(p5:((Fin 1)×Nat)) =>cond (p5.1.val==0) (((y4.2.1.1)[p5.2]?).bind fun(y6:ah) =>(FX G 188 oD ((k2,()),())).bind fun(y7:((ae×Unit)×Unit)) =>(FX G 187 tn ((y6.2.1,(mm,((y7.1.1.1,y7.1.1.2),()))),())).bind fun(y8:(((List ae)×Unit)×Unit)) =>((y4.2.1.1)[p5.2]?).bind fun(y9:ah) =>(FX G 169 rk (([mm,k2],()),())).bind fun(mL:(((List ae)×Unit)×Unit)) =>(FX G 152 Ie (((dQ o,(mL.1.1,((⟨#[]⟩:ByteArray),(0:Int)))),()),(((List.set y4.2.1.1 p5.2 (y9.1,(y8.1.1,y9.2.2))),(y4.2.1.2.1,y4.2.1.2.2)),()))).bind fun(kV:((Int×Unit)×(ba×Unit))) =>cond (kV.1.1 != (0:Int)) (some (kV.1,((kV.2.1.1,(kV.2.1.2.1,kV.2.1.2.2)),()))) ((FX G 178 yS ((an o,()),((kV.2.1.1,(kV.2.1.2.1,kV.2.1.2.2)),()))).bind fun(o4:((Int×Unit)×(ba×Unit))) =>some (o4.1,((o4.2.1.1,(o4.2.1.2.1,o4.2.1.2.2)),())))) (none))=some ((e,()),(w,())):=by intro mm k2 ais ait;subst ais ait;refine aa (EV hG (aP s) mm h.d.rw hs.n hs.r hk jF) ?_;refine tz rfl (af rfl (aa hk ?_));refine aa (I9 (hG _ _ rfl) k2 oZ) ?_;refine aa (Xu hG v.2.1 mm (au k2) (hs.r v hv)) ?_;refine aa hk ?_;refine aa (EL hG [mm,k2] (by simp)) ?_;exact rest _ e1
    exact body _ _ eM eK
  have aiu:24≤s.1.1.length→qv ((aK s.1 m (au kk)).1,(s.1.2,(s.2,()))) (dQ o,(cw [m,kk],(e0,0)))=(3,((aK s.1 m (au kk)).1,(s.1.2,(s.2,())))):=fun hb=>by unfold qv;rw[if_neg (by rw[show bg ((aK s.1 m (au kk)).1,(s.1.2,(s.2,()))).1 ((dQ o,(cw [m,kk],(e0,0))):ah).1=none from VG];simp)];rw[if_pos (by show 24≤(aK s.1 m (au kk)).1.length;omega)]
  have YT:¬24≤s.1.1.length→qv ((aK s.1 m (au kk)).1,(s.1.2,(s.2,()))) (dQ o,(cw [m,kk],(e0,0)))=(0,(eL (dQ o,(cw [m,kk],(e0,0))) (aK s.1 m (au kk)).1,(s.1.2,(s.2,())))):=fun hb=>by unfold qv;rw[if_neg (by rw[show bg ((aK s.1 m (au kk)).1,(s.1.2,(s.2,()))).1 ((dQ o,(cw [m,kk],(e0,0))):ah).1=none from VG];simp)];rw[if_neg (by show ¬24≤(aK s.1 m (au kk)).1.length;omega)]
  by_cases hb:24≤s.1.1.length
  · refine⟨3,((aK s.1 m (au kk)).1,(s.1.2,(s.2,()))),go _ _ (fun a ha=>?_),?_⟩
    · subst ha
      refine aa (YN hG ((aK s.1 m (au kk)).1,(s.1.2,(s.2,()))) (dQ o,(cw [m,kk],(e0,0))) q1.s (by show(aK s.1 m (au kk)).1.length≤_;omega)) ?_;rw[aiu hb];exact af rfl rfl
    · rw[if_pos hb];rfl
  rw[if_neg hb];have hE:tB (eL (dQ o,(cw [m,kk],(e0,0))) (aK s.1 m (au kk)).1,(s.1.2,(s.2,()))) (an o)=if 40≤s.1.2.length then(3,(eL (dQ o,(cw [m,kk],(e0,0))) (aK s.1 m (au kk)).1,(s.1.2,(s.2,())))) else(0,(eL (dQ o,(cw [m,kk],(e0,0))) (aK s.1 m (au kk)).1,(dA (an o,(e0,0)) s.1.2,(s.2,())))):=by unfold tB;rw[if_neg (by show ¬(aX s.1.2 (an o)).isSome=true;rw[PI];simp)]
  have fin:FX G 156 zH ((o,()),(aP s,()))=some (((tB (eL (dQ o,(cw [m,kk],(e0,0))) (aK s.1 m (au kk)).1,(s.1.2,(s.2,()))) (an o)).1,()),((tB (eL (dQ o,(cw [m,kk],(e0,0))) (aK s.1 m (au kk)).1,(s.1.2,(s.2,()))) (an o)).2,())):=by refine go _ _ (fun a ha=>?_);subst ha;refine aa (YN hG ((aK s.1 m (au kk)).1,(s.1.2,(s.2,()))) (dQ o,(cw [m,kk],(e0,0))) q1.s (by show(aK s.1 m (au kk)).1.length≤_;omega)) ?_;rw[YT hb];refine ag rfl ?_;exact aa (Xr hG (eL (dQ o,(cw [m,kk],(e0,0))) (aK s.1 m (au kk)).1,(s.1.2,(s.2,()))) (an o) h.d.se (by show s.1.2.length≤_;omega)) rfl
  rw[hE]at fin;by_cases hb4:40≤s.1.2.length
  · rw[if_pos hb4]at fin ⊢
    exact⟨_,_,fin,rfl⟩
  · rw[if_neg hb4]at fin ⊢
    refine⟨_,_,fin,?_⟩;rw[PA,UJ];rfl
theorem aiv(hG:HG G)(s:StateT)(o:aR)(h:eO s)(hs:Sv s.1.1) :
    ∃(e:Int) (w:ba),FX G 157 rj ((o,()),(aP s,()))=some ((e,()),(w,()))∧gF e w=kh s o:=by
  have bw:=h.d.ne;have UC:=h.d.nv;have hgn:=h.n;have start:∀(e:Int) (w:ba),bR 157 rj Tryz.f157 (FX G) (LX G 157 rj Tryz.f157) ((o,()),(aP s,()))=some ((e,()),(w,()))→FX G 157 rj ((o,()),(aP s,()))=some ((e,()),(w,())):=fun e w a =>az (hG _ _ rfl) a rfl;unfold kh
  cases hf:bg s.1.1 (aH o) with
  |none =>
    refine⟨13,aP s,start _ _ ((aa2).trans ?_),?_⟩
    · refine aa (qu hG (aP s) (aH o) h.d.sv (by show s.1.1.length≤_;omega)) ?_
      exact aV ((fR (l:=s.1.1) h.d.sv).trans (by rw[hf])) rfl
    · rw[show aQ s.1 (aH o)=none from hf];rfl
  |some v =>
  have hfs:(bg s.1.1 (aH o)).isSome=true:=by rw[hf];rfl
  have hv:=gP hf;have hvi:=kL hf;have nH:=dn h.d.sv hf;have aF:=(aci.1 nH).1;have hgr:=h.d.rw;have go:∀(e:Int) (w:ba),(cond ((((List.length v.2.1):Nat):Int) != (2:Int)) (some (((14:Int),()),(aP s,()))) _=some ((e,()),(w,())))→FX G 157 rj ((o,()),(aP s,()))=some ((e,()),(w,())):=fun e w rest=>by refine start _ _ ((aa2).trans ?_);refine aa (qu hG (aP s) (aH o) h.d.sv (by show s.1.1.length≤_;omega)) ?_;refine aV ((fR (l:=s.1.1) h.d.sv).trans hfs) (ag rfl ?_);refine af (c8 (fi _) (aY aF)) (aa nH ?_);exact rest
  rw[show aQ s.1 (aH o)=some v from hf];by_cases wD:v.2.1.length=2
  case neg =>
    refine⟨14,aP s,go _ _ (af (by rw[bne_iff_ne];omega) rfl),?_⟩;show gF 14 (aP s)=(match v.2.1 with | [r0,r1]=>jz s o r0 r1|_=>(zS,(14,())))
    split
    · rename_i hr;rw[hr]at wD;exact absurd rfl wD
    · rfl
  obtain⟨r0,r1,hr⟩:∃r0 r1,v.2.1=[r0,r1]:=by
    match hq:v.2.1,wD with
    |[a,b],_=>exact⟨a,b,rfl⟩
  have Ep:(((List.length v.2.1:Nat):Int) != (2:Int))=false:=by rw[wD];rfl
  have g0:aT v.2.1 (0:Int)=some r0:=by rw[hr];rfl
  have g1:aT v.2.1 (1:Int)=some r1:=by rw[hr];rfl
  show ∃(e:Int) (w:ba),FX G 157 rj ((o,()),(aP s,()))=some ((e,()),(w,()))∧gF e w=(match v.2.1 with | [r0,r1]=>jz s o r0 r1|_=>(zS,(14,())));rw[hr];show ∃(e:Int) (w:ba),FX G 157 rj ((o,()),(aP s,()))=some ((e,()),(w,()))∧gF e w=jz s o r0 r1;unfold jz;by_cases ZU:r0.1=r1.1
  · refine⟨14,aP s,go _ _ (ag Ep (aa g0 (aa g1 (af ((gM r0.1 r1.1).trans (decide_eq_true ZU)) rfl)))),?_⟩
    rw[if_pos ZU];rfl
  rw[if_neg ZU];have b01:=(gM r0.1 r1.1).trans (decide_eq_false ZU);have tail:∀a b:ae,v.2.1.Perm [a,b]→a.1≠b.1→((FX G 188 oD ((b,()),())).bind fun(y7:((ae×Unit)×Unit)) =>cond (jG s.1.1 ((bJ s.1.1 (aH o):Nat):Int) (IntKind.wrap .i64 (((bJ s.1.1 (aH o):Nat):Int)+(1:Int)))) ((FX G 185 mb (((y7.1.1.1,y7.1.1.2),()),(((dy s.1.1 ((bJ s.1.1 (aH o):Nat):Int) (IntKind.wrap .i64 (((bJ s.1.1 (aH o):Nat):Int)+(1:Int)))),(s.1.2,(s.2,()))),()))).bind fun(y8:(((Option ((Fin 1)×Nat))×Unit)×(ba×Unit))) =>qH y8.1.1 (none) fun(p9:((Fin 1)×Nat)) =>cond (p9.1.val==0) (((y8.2.1.1)[p9.2]?).bind fun(mL:ah) =>(FX G 187 tn ((mL.2.1,((y7.1.1.1,y7.1.1.2),(a,()))),())).bind fun(kV:(((List ae)×Unit)×Unit)) =>((y8.2.1.1)[p9.2]?).bind fun(o4:ah) =>(FX G 182 nh ((b.1,()),(((List.set y8.2.1.1 p9.2 (o4.1,(kV.1.1,o4.2.2))),(y8.2.1.2.1,y8.2.1.2.2)),()))).bind fun(lk:((Int×(Bool×Unit))×(ba×Unit))) =>cond (jG lk.2.1.2.1 lk.1.1 (IntKind.wrap .i64 (lk.1.1+(1:Int)))) (LX G 157 rj Tryz.f157 nN (aO Tryz.prog 157 0) (((0:Int),()),(((lk.2.1.1,((dy lk.2.1.2.1 lk.1.1 (IntKind.wrap .i64 (lk.1.1+(1:Int)))),lk.2.1.2.2)),((a,()),((b,()),(((y7.1.1.1,y7.1.1.2),()),())))),()))) (none)) (none)) (none))=some (((0:Int),()),(((K9 s o a b).1,((K9 s o a b).2,(IY s.2 a b,()))),())):=by
    intro a b hp mH;obtain⟨p,q,h1,_,h2,_⟩:=rG h.d.sv hv;have pd:(ax s.1.1).Perm (a::b::ax (p++q)):=by have:=(iS p q v).trans (aex _ hp);rw[←h1]at this;exact this
    have MS:dE s.1.1 (aH o)=p++q:=by rw[←hvi];exact h2
    have OX:bj s.1 (aH o) zI=(p++q,s.1.2):=by unfold bj;rw[MS,wb h.d.ge]
    have Ec:=pd.nodup_iff.1 hgr.n;have hbm:b∈ends s.1.2:=h.d.pd.mem_iff.1 (pd.mem_iff.2 (by simp));obtain⟨e,he,WJ,zR⟩:=cG.1 hbm;have z7:(aX s.1.2 b.1).isSome=true:=by unfold aX;rw[List.find?_isSome];exact⟨e,he,by simpa using WJ⟩
    obtain⟨_,ho⟩:=iW zR;have YQ:au b∈ax (p++q):=by
      have h3:au b∈ax s.1.1:=h.d.jA (s:=(au b).2) z7 (by rcases ho with⟨_,k⟩|⟨_,k⟩<;>omega);rcases acp.1 (pd.mem_iff.1 h3) with k|k
      · exact absurd (congrArg Prod.fst k) (fun k=>mH k.symm)
      rcases acp.1 k with k|k
      · have:=congrArg Prod.snd k;omega
      · exact k
    have VH:Rw (p++q):=⟨by rw[←h2];exact qa h.d.sv,(adi.1 (adi.1 Ec).2).2⟩;have bE:∀u∈p++q,u∈s.1.1:=fun u hu=>by
      rw[h1];rcases ac8.1 hu with k|k
      · exact acq _ k
      · exact ac2 _ (acm _ k)
    have HR:Sv (p++q):=⟨by have:=hs.n;rw[h1]at this;simp at this ⊢;omega,fun u hu=>hs.r u (bE u hu)⟩;obtain⟨dk1,dk2⟩:=S5 h.d.sv hfs (by omega);rw[MS]at dk2;obtain⟨k,u,hk,hxu,hu⟩:=rH YQ;have e1:(p++q).set k (u.1,(jI u.2.1 (au b) a,u.2.2))=(aK (p++q,s.1.2) (au b) a).1:=Jb VH hk hxu _ s.1.2;have PM:∀w∈(aK (p++q,s.1.2) (au b) a).1,GV w:=uB (d:=(p++q,s.1.2)) (fun w hw=>h.d.gv w (bE w hw)) _ _;have eD:K9 s o a b=((aK (p++q,s.1.2) (au b) a).1,db s.1.2 b.1):=by unfold K9;rw[OX];unfold bj;rw[wc PM];rfl
    have ga:=j7 h.g h.n ((b.1,0),qA a b 0);rw[eD];refine aa (I9 (hG _ _ rfl) b zR) ?_;refine af dk1 ?_;have r1:∀l1:List ah,l1=p++q→((FX G 185 mb ((au b,()),((l1,(s.1.2,(s.2,()))),()))).bind fun(y8:(((Option ((Fin 1)×Nat))×Unit)×(ba×Unit))) =>qH y8.1.1 (none) fun(p9:((Fin 1)×Nat)) =>cond (p9.1.val==0) (((y8.2.1.1)[p9.2]?).bind fun(mL:ah) =>(FX G 187 tn ((mL.2.1,(au b,(a,()))),())).bind fun(kV:(((List ae)×Unit)×Unit)) =>((y8.2.1.1)[p9.2]?).bind fun(o4:ah) =>(FX G 182 nh ((b.1,()),(((List.set y8.2.1.1 p9.2 (o4.1,(kV.1.1,o4.2.2))),(y8.2.1.2.1,y8.2.1.2.2)),()))).bind fun(lk:((Int×(Bool×Unit))×(ba×Unit))) =>cond (jG lk.2.1.2.1 lk.1.1 (IntKind.wrap .i64 (lk.1.1+(1:Int)))) (LX G 157 rj Tryz.f157 nN (aO Tryz.prog 157 0) (((0:Int),()),(((lk.2.1.1,((dy lk.2.1.2.1 lk.1.1 (IntKind.wrap .i64 (lk.1.1+(1:Int)))),lk.2.1.2.2)),((a,()),((b,()),((au b,()),())))),()))) (none)) (none))=some (((0:Int),()),(((aK (p++q,s.1.2) (au b) a).1,(db s.1.2 b.1,(IY s.2 a b,()))),())):=by
      intro l1 hl1;subst hl1;refine aa (EV hG (p++q,(s.1.2,(s.2,()))) (au b) VH HR.n HR.r hk hxu) ?_;refine tz rfl (af rfl (aa hk ?_));refine aa (Xu hG u.2.1 (au b) a (HR.r u hu)) ?_;refine aa hk ?_;have r2:∀l2:List ah,l2=(aK (p++q,s.1.2) (au b) a).1→((FX G 182 nh ((b.1,()),((l2,(s.1.2,(s.2,()))),()))).bind fun(lk:((Int×(Bool×Unit))×(ba×Unit))) =>cond (jG lk.2.1.2.1 lk.1.1 (IntKind.wrap .i64 (lk.1.1+(1:Int)))) (LX G 157 rj Tryz.f157 nN (aO Tryz.prog 157 0) (((0:Int),()),(((lk.2.1.1,((dy lk.2.1.2.1 lk.1.1 (IntKind.wrap .i64 (lk.1.1+(1:Int)))),lk.2.1.2.2)),((a,()),((b,()),((au b,()),())))),()))) (none))=some (((0:Int),()),(((aK (p++q,s.1.2) (au b) a).1,(db s.1.2 b.1,(IY s.2 a b,()))),())):=by
        intro l2 wD;subst wD;refine aa (oQ hG ((aK (p++q,s.1.2) (au b) a).1,(s.1.2,(s.2,()))) b.1 h.d.se (by show s.1.2.length≤_;omega)) ?_;obtain⟨ek1,ek2⟩:=Ja h.d.se z7 (by omega);refine af ek1 ?_;have r3:∀l3:List ai,l3=db s.1.2 b.1→(LX G 157 rj Tryz.f157 nN (aO Tryz.prog 157 0) (((0:Int),()),((((aK (p++q,s.1.2) (au b) a).1,(l3,(s.2,()))),((a,()),((b,()),((au b,()),())))),())))=some (((0:Int),()),(((aK (p++q,s.1.2) (au b) a).1,(db s.1.2 b.1,(IY s.2 a b,()))),())):=by
          intro l3 hl3;subst hl3;have eb:b=(b.1,b.2):=rfl;have eo:au b=(b.1,(au b).2):=rfl;rcases ho with⟨Gd,QN⟩|⟨Ou,ho0⟩
          · rw[Gd]at eb;rw[QN]at eo
            have t0:qA a b 0=zD:=by unfold qA;rw[if_neg (by rw[eo];simp)]
            have t1:qA a b 1=a:=by unfold qA;rw[if_pos eo.symm]
            rw[t0,←eb]at ga;have eG:IY s.2 a b=bQ (bQ s.2 (b,zD)) (au b,a):=by unfold IY;rw[t0,t1,←eb,←eo]
            rw[eG];refine ao xx ?_;refine af rfl (af (by show(b.2==(0:Int))=true;simp[Gd]) ?_);refine aa (EU hG ((aK (p++q,s.1.2) (au b) a).1,(db s.1.2 b.1,(s.2,()))) b zD h.g (by show s.2.length≤_;omega)) ?_;refine ao xx ?_;refine af rfl (ag (by show(b.2==(1:Int))=false;simp[Gd]) ?_);refine aa (EU hG ((aK (p++q,s.1.2) (au b) a).1,(db s.1.2 b.1,(bQ s.2 (b,zD),()))) (au b) a ga.1 (by have:=ga.2;show(bQ s.2 (b,zD)).length≤_;omega)) ?_;refine ao xx ?_;exact ag rfl rfl
          · rw[Ou]at eb;rw[ho0]at eo
            have t0:qA a b 0=a:=by unfold qA;rw[if_pos eo.symm]
            have t1:qA a b 1=zD:=by unfold qA;rw[if_neg (by rw[eo];simp)]
            rw[t0,←eo]at ga;have eG:IY s.2 a b=bQ (bQ s.2 (au b,a)) (b,zD):=by unfold IY;rw[t0,t1,←eb,←eo]
            rw[eG];refine ao xx ?_;refine af rfl (ag (by show(b.2==(0:Int))=false;simp[Ou]) ?_);refine aa (EU hG ((aK (p++q,s.1.2) (au b) a).1,(db s.1.2 b.1,(s.2,()))) (au b) a h.g (by show s.2.length≤_;omega)) ?_;refine ao xx ?_;refine af rfl (af (by show(b.2==(1:Int))=true;simp[Ou]) ?_);refine aa (EU hG ((aK (p++q,s.1.2) (au b) a).1,(db s.1.2 b.1,(bQ s.2 (au b,a),()))) b zD ga.1 (by have:=ga.2;show(bQ s.2 (au b,a)).length≤_;omega)) ?_;refine ao xx ?_;exact ag rfl rfl
        exact r3 _ ek2
      exact r2 _ e1
    exact r1 _ dk2
  have bo:∀y:ae,((y.1.1==(an o).1)&&(y.1.2==(an o).2))=decide (y.1=an o):=fun y=>gM y.1 (an o);by_cases h0:r0.1=an o
  · rw[if_pos h0]
    refine⟨0,((K9 s o r1 r0).1,((K9 s o r1 r0).2,(IY s.2 r1 r0,()))),go _ _ (ag Ep (aa g0 (aa g1 (ag b01 (aa g0 (aa g1 (af ((bo r0).trans (decide_eq_true h0)) ?_))))))),rfl⟩;refine aV ((bo r0).trans (decide_eq_true h0)) (ag rfl ?_);exact tail r1 r0 (by rw[hr];exact List.Perm.swap _ _ _) (fun k=>ZU k.symm)
  rw[if_neg h0];by_cases h1:r1.1=an o
  · rw[if_pos h1]
    refine⟨0,((K9 s o r0 r1).1,((K9 s o r0 r1).2,(IY s.2 r0 r1,()))),go _ _ (ag Ep (aa g0 (aa g1 (ag b01 (aa g0 (aa g1 (ag ((bo r0).trans (decide_eq_false h0)) ?_))))))),rfl⟩;refine aV ((bo r1).trans (decide_eq_true h1)) (ag rfl ?_);exact tail r0 r1 (by rw[hr]) ZU
  rw[if_neg h1];refine⟨14,aP s,go _ _ (ag Ep (aa g0 (aa g1 (ag b01 (aa g0 (aa g1 (ag ((bo r0).trans (decide_eq_false h0)) ?_))))))),rfl⟩;exact aV ((bo r1).trans (decide_eq_false h1)) (af rfl rfl)
end Go.Vs
namespace Go.Vs
open Go.Proofs
theorem EW{row:List ae}(hn:row.Nodup){i j:Nat}{hi:i<row.length}{hj:j<row.length}(h:row[i]=row[j]):i=j:=by
 rcases Nat.lt_trichotomy i j with k|k|k
 ·exact absurd h (aeR.1 hn i j hi hj k)
 ·exact k
 ·exact absurd h.symm (aeR.1 hn j i hj hi k)
theorem EX{row:List ae}(hn:row.Nodup){i j:Nat}{x:ae}(hi:row[i]? = some x)(hj:row[j]? = some x):i=j:=by obtain⟨h1,h2⟩:=aci.1 hi;obtain⟨h3,h4⟩:=aci.1 hj;exact EW hn (h2.trans h4.symm)
theorem Jc(row:List ae):∃j,j≤row.length∧cw row=Dp row j:=by
 by_cases h0:row.length=0
 ·have:row=[]:=by simpa using h0
  subst this;exact⟨0,by simp,rfl⟩
 ·exact⟨fL row row 0 0,Nat.le_of_lt (pZ row row 0 0 (by omega) (by omega)),rfl⟩
theorem VI{row:List ae}(hn:row.Nodup){k:Nat}{x:ae}(hk:row[k]? = some x):idx x row 0=(k:Int):=by have:=Lc (d:=x) (row:=row) (k:=k) (i:=0) hk (fun j hj he=>by have:=EX hn hk he;omega);omega
end Go.Vs
namespace Go.Vs
open Go.Proofs
variable {G:(f:FuncId)→(g:aS)→Option (g.A→Option g.B)}
theorem OZ(l:List ah)(x:ID):l.any (fun w=>decide (w.1=x))=(bg l x).isSome:=by rw[Bool.eq_iff_iff,List.any_eq_true];unfold bg;rw[List.find?_isSome]
theorem O0(l:List ai)(x:ID):l.any (fun w=>decide (w.1=x))=(aX l x).isSome:=by rw[Bool.eq_iff_iff,List.any_eq_true];unfold aX;rw[List.find?_isSome]
theorem O2(s:StateT)(o:aR):gF (uz (aP s) o).1 (uz (aP s) o).2=xD s o:=by
 unfold uz xD IX Gv;rw[OZ,O0];by_cases ho:fE o=true
 ·have hv:s.1.1.map (je o)=s.1.1:=by
   conv=>rhs;rw[←List.map_id s.1.1]
   exact ae0 fun u hu=>by unfold je;rw[if_neg (by rw[ho];simp)];rfl
  rw[if_pos ho,ho,hv];show gF (if(aX s.1.2 (aH o)).isSome=true then _ else _:Int×ba).1 (if(aX s.1.2 (aH o)).isSome=true then _ else _:Int×ba).2=_
  cases (aX s.1.2 (aH o)).isSome<;>rfl
 ·have nJ:fE o=false:=by simpa using ho
  have he:s.1.2.map (jY o)=s.1.2:=by
   conv=>rhs;rw[←List.map_id s.1.2]
   exact ae0 fun u hu=>by unfold jY;rw[if_neg (by rw[nJ];simp)];rfl
  rw[if_neg ho,nJ,he];show gF (if(bg s.1.1 (aH o)).isSome=true then _ else _:Int×ba).1 (if(bg s.1.1 (aH o)).isSome=true then _ else _:Int×ba).2=_
  cases (bg s.1.1 (aH o)).isSome<;>rfl
theorem S6(hG:HG G)(w:ba)(o:aR)(hk:7≤o.1)(hv:b8 w.1)(he:dr w.2.1)(PJ:w.1.length≤50000000)(hle:w.2.1.length≤50000000) :
  FX G 131 BD ((o,()),(w,()))=some (((uz w o).1,()),((uz w o).2,())):=by
 refine az (hG _ _ rfl) KR ?_;have kn:∀k:Int,k<7→(o.1==k)=false:=fun k oZ=>zi (by omega);refine ag (kn 1 (by omega)) (ag (kn 2 (by omega)) (ag (kn 3 (by omega)) (ag (kn 4 (by omega)) (ag (kn 5 (by omega)) (ag (kn 6 (by omega)) ?_)))));exact aa (aii hG w o hv he PJ hle) rfl
def O3(x:ID)(e:Bool)(t:ByteArray):aR:=(7,(x,(zI,(zI,(zC,(zC,(e,(t,0))))))))
def PN(x:ID)(e:Bool)(n:Int):aR:=(8,(x,(zI,(zI,(zC,(zC,(e,(e0,n))))))))
theorem MT{x:ID}{e:Bool}{t:ByteArray}(hx:cd x=true)(ht:mN t=true):bB (O3 x e t)=0:=by
 unfold bB;rw[if_neg (by simp[O3]),if_neg (by simp[O3]),if_neg (by simp[O3,hx]),if_neg,if_neg (by simp[O3]),if_neg (by simp[O3]),if_neg (by simp[O3]),if_neg (by simp[O3]),if_pos (show(O3 x e t).1=7 from rfl)]
 ·exact if_pos ht
 intro h;have:p6 (jK (O3 x e t)) J3=true:=(ig _ _).2 rfl;rw[this]at h;cases h
theorem MU{x:ID}{e:Bool}{n:Int}(hx:cd x=true)(ht:kH n=true):bB (PN x e n)=0:=by
 unfold bB;rw[if_neg (by simp[PN]),if_neg (by simp[PN]),if_neg (by simp[PN,hx]),if_neg,if_neg (by simp[PN]),if_neg (by simp[PN]),if_neg (by simp[PN]),if_pos (show(PN x e n).1=8 from rfl)]
 ·exact if_pos ht
 intro h;have:p6 (jK (PN x e n)) J3=true:=(ig _ _).2 rfl;rw[this]at h;cases h
theorem YU:OM 0:=by unfold OM;omega
theorem MV{l:List ah}(hs:b8 l){v w:ah}(hv:v∈l)(hw:w∈l)(h:w.1=v.1):w=v:=by have h1:=ij hs hv;have h2:=ij hs hw;rw[h,h1]at h2;exact(ac5 h2).symm
structure Lay(s t:StateT):Prop where
 v:b8 t.1.1
 e:dr t.1.2
 sm:Sm t.1
 g:t.2.length≤50000000
theorem Jd(l:List ai):(ends l).length=2*l.length:=by
 induction l with
 |nil=>rfl
 |cons e r ih=>rw[j4];simp[ih];omega
theorem VJ{l:List ah}{v:ah}(h:v∈l):v.2.1.length≤(ax l).length:=by obtain⟨a,b,rfl⟩:=aeC h;rw[oR,iI];simp;omega
theorem Wf.qh{d:aj}(h:Wf d):∀v∈d.1,v.2.1.length≤80:=fun v hv=>by have h1:=VJ hv;have h2:=h.pd.length_eq;have h3:=h.ne;rw[Jd]at h2;omega
theorem Wf.sm{d:aj}(h:Wf d):Sm d:=⟨by have:=h.nv;omega,by have:=h.ne;omega,fun v hv=>by have:=h.qh v hv;omega⟩
theorem Wf.small{d:aj}(h:Wf d):Sv d.1:=⟨by have:=h.nv;omega,fun v hv=>by have:=h.qh v hv;omega⟩
theorem O4(s:StateT)(o:aR):gF (qv (aP s) (aH o,([],(e0,0)))).1 (qv (aP s) (aH o,([],(e0,0)))).2=qt s o:=by
 by_cases hh:(bg s.1.1 (aH o)).isSome=true
 ·have a:qv (aP s) (aH o,([],(e0,0)))=(12,aP s):=if_pos hh;have b:qt s o=(zS,(12,())):=if_pos hh;rw[a,b];rfl
 by_cases h:24≤s.1.1.length
 ·have a:qv (aP s) (aH o,([],(e0,0)))=(3,aP s):=(if_neg hh).trans (if_pos h);have b:qt s o=(zS,(3,())):=(if_neg hh).trans (if_pos h);rw[a,b];rfl
 ·have a:qv (aP s) (aH o,([],(e0,0)))=(0,(eL (aH o,([],(e0,0))) (aP s).1,(aP s).2)):=(if_neg hh).trans (if_neg h);have b:qt s o=(((eL (aH o,([],(e0,0))) s.1.1,s.1.2),s.2),(0,())):=(if_neg hh).trans (if_neg h);rw[a,b];rfl
theorem O5{s:StateT}(h:eO s)(o:aR):gF (EI (aP s) (aH o)).1 (EI (aP s) (aH o)).2=zh s o:=by
 unfold EI zh aQ;show gF (match bg s.1.1 (aH o) with|none=>(13,aP s)|some v=>if 0<v.2.1.length then(14,aP s) else(0,(dE s.1.1 (aH o),(s.1.2,(s.2,())))):Int×ba).1 (match bg s.1.1 (aH o) with|none=>(13,aP s)|some v=>if 0<v.2.1.length then(14,aP s) else(0,(dE s.1.1 (aH o),(s.1.2,(s.2,())))):Int×ba).2=_
 cases bg s.1.1 (aH o) with
 |none=>rfl
 |some v =>
  simp only;by_cases hl:0<v.2.1.length
  ·rw[if_pos hl,if_pos hl];rfl
  ·rw[if_neg hl,if_neg hl];unfold bj;rw[wb h.d.ge];rfl
def MW(s:StateT)(o:aR):StateT×(Int×Unit) :=if o.1=1 then qt s o else if o.1=2 then zh s o else if o.1=3 then oM s o else if o.1=4 then DQ s o else if o.1=5 then mw s o else if o.1=6 then kh s o else xD s o
theorem EY(s:StateT)(o:aR):c7 s o=if bB o≠0 then(zS,(bB o,())) else MW s o:=rfl
theorem Je(hG:HG G)(s:StateT)(o:aR)(h:eO s)(hm:bB o=0)(h3:o.1=3→∃(e:Int) (w:ba),FX G 154 oz ((o,()),(aP s,()))=some ((e,()),(w,()))∧gF e w=oM s o) :
  ∃(e:Int) (w:ba),FX G 131 BD ((o,()),(aP s,()))=some ((e,()),(w,()))∧gF e w=MW s o:=by
 have hk:=mA hm;have VL:=h.d.small;have UC:=h.d.nv;have bw:=h.d.ne;have start:∀(e:Int) (w:ba),bR 131 BD Tryz.f131 (FX G) (LX G 131 BD Tryz.f131) ((o,()),(aP s,()))=some ((e,()),(w,()))→FX G 131 BD ((o,()),(aP s,()))=some ((e,()),(w,())):=fun e w a =>az (hG _ _ rfl) a rfl;unfold MW;by_cases h1:o.1=1
 ·rw[if_pos h1];refine⟨_,_,start _ _ ((KR).trans (af (G3 h1) (aa (YN hG (aP s) (aH o,([],(e0,0))) h.d.sv VL.n) rfl))),?_⟩;exact O4 s o
 rw[if_neg h1];by_cases h2:o.1=2
 ·rw[if_pos h2];refine⟨_,_,start _ _ ((KR).trans (ag (zi h1) (af (G3 h2) (aa (ah9 hG (aP s) o h.d.sv VL.n) rfl)))),?_⟩;exact O5 h o
 rw[if_neg h2];by_cases PL:o.1=3
 ·rw[if_pos PL];obtain⟨e,w,a,b⟩:=h3 PL;exact⟨e,w,start _ _ ((KR).trans (ag (zi h1) (ag (zi h2) (af (G3 PL) (aa a rfl))))),b⟩
 rw[if_neg PL];by_cases hk4:o.1=4
 ·rw[if_pos hk4];obtain⟨e,w,a,b⟩:=ail hG s o h VL;exact⟨e,w,start _ _ ((KR).trans (ag (zi h1) (ag (zi h2) (ag (zi PL) (af (G3 hk4) (aa a rfl)))))),b⟩
 rw[if_neg hk4];by_cases YS:o.1=5
 ·rw[if_pos YS];obtain⟨e,w,a,b⟩:=aip hG s o h VL hm YS;exact⟨e,w,start _ _ ((KR).trans (ag (zi h1) (ag (zi h2) (ag (zi PL) (ag (zi hk4) (af (G3 YS) (aa a rfl))))))),b⟩
 rw[if_neg YS];by_cases hk6:o.1=6
 ·rw[if_pos hk6];obtain⟨e,w,a,b⟩:=aiv hG s o h VL;exact⟨e,w,start _ _ ((KR).trans (ag (zi h1) (ag (zi h2) (ag (zi PL) (ag (zi hk4) (ag (zi YS) (af (G3 hk6) (aa a rfl)))))))),b⟩
 rw[if_neg hk6];refine⟨_,_,S6 hG (aP s) o (by omega) h.d.sv h.d.se VL.n (by show s.1.2.length≤_;omega),?_⟩;exact O2 s o
theorem CO(hG:HG G)(s:StateT)(o:aR)(h:eO s)(hf:Fit o)(h3:bB o=0→o.1=3→∃(e:Int) (w:ba),FX G 154 oz ((o,()),(aP s,()))=some ((e,()),(w,()))∧gF e w=oM s o) :
  FX G 73 HZ ((s,o,()),())=some (c7 s o,()):=by
 rw[EY];have hn:=h.n;by_cases hm:bB o=0
 ·obtain⟨e,w,a,b⟩:=Je hG s o h hm (h3 hm);refine(VB hG s o (YO hG o hf) h.d.sm (by omega) (fun _=>a)).trans ?_;rw[hm,if_neg (by simp),b];rfl
 ·rw[if_pos hm];refine az (hG _ _ rfl) aaZ ?_;refine aa (YO hG o hf) ?_;exact af (by simpa using hm) rfl
def nQ(G:(f:FuncId)→(g:aS)→Option (g.A→Option g.B))(o:aR):Prop:=∀s,eO s→bB o=0→o.1=3→∃(e:Int) (w:ba),FX G 154 oz ((o,()),(aP s,()))=some ((e,()),(w,()))∧gF e w=oM s o
theorem S7{s:StateT}{o:aR}(hm:bB o=0):MW s o=c7 s o:=by rw[EY,if_neg (by simp[hm])]
theorem aiz(hG:HG G)(l:List aR)(hl:l.length≤1073741824)(hm:∀o∈l,bB o=0)(h3:∀o∈l,nQ G o):∀(n i:Nat) (s:StateT),i+n=l.length→eO s → LX G 103 DJ Tryz.f103 B7 (aO Tryz.prog 103 0) ((l,(((l.length:Nat):Int),((i:Int),()))),((zW,(aP s,())),()))=some (p7 (l.drop i) s,()):=by
 intro n
 induction n with
 |zero =>intro i s hi hw;refine ao F6 ?_;refine ag (decide_eq_false (show ¬((i:Int)<((l.length:Nat):Int)) by omega)) ?_;rw[List.drop_eq_nil_of_le (by omega)];rfl
 |succ n ih =>
  intro i s hi hw;have aF:i<l.length:=by omega
  have ho:=hm l[i] (adv aF);obtain⟨e,w,h1,h2⟩:=Je hG s l[i] hw ho (h3 _ (adv aF) s hw ho);rw[S7 ho]at h2;refine ao F6 ?_;refine af (aY aF) (aa (aA (aaY aF)) ?_);refine aa h1 ?_;rw[List.drop_eq_getElem_cons aF,p7];have Fs:=hw.one l[i];by_cases he:e=0
  ·have e1:gF e w=(Ap w,(0,())):=if_neg (by simp[he]);rw[e1]at h2;rw[←h2]at Fs ⊢;rw[if_neg (by simp)];refine ag (show(e != 0)=false by simp[he]) ?_;have:=ih (i+1) (Ap w) (by omega) Fs;rw[←aD aF hl]at this;exact this
  ·have e1:gF e w=(zS,(e,())):=if_pos he;rw[e1]at h2;rw[←h2,if_pos he];exact af (show(e != 0)=true by simp[he]) rfl
theorem YV(hG:HG G)(s:StateT)(l:List aR)(hw:eO s)(hl:l.length≤1073741824)(hm:∀o∈l,bB o=0)(h3:∀o∈l,nQ G o):FX G 103 DJ ((s,l,()),())=some (p7 l s,()):=by have hn:=hw.n;refine az (hG _ _ rfl) aa0 ?_;refine aa (YM hG s.1 hw.d.sm) ?_;refine aa (VA (hG _ _ rfl) s.2 (by omega)) ?_;have:=aiz hG l hl hm h3 l.length 0 s (by omega) hw;rw[List.drop_zero]at this;exact this
theorem Jf(l:List aR)(h:kI l=0):∀o∈l,bB o=0:=by
 induction l with
 |nil=>intro o ho;simp at ho
 |cons o r ih =>
  rw[kI]at h;by_cases ho:bB o=0
  ·rw[if_neg (fun k=>k ho)]at h;intro p hp;rcases acp.1 hp with e|hp
   ·rw[e];exact ho
   ·exact ih h p hp
  ·rw[if_pos ho]at h;exact absurd h ho
theorem Lj{l:List aR}(h:eE l=0):∀o∈l,bB o=0:=by
 unfold eE at h
 split at h
 ·exact Jf l h
 ·cases h
theorem aiA(hG:HG G)(s:StateT)(l:List aR)(hw:eO s)(hl:l.length≤1073741824)(hf:∀o∈l,Fit o)(h3:∀o∈l,nQ G o):FX G 63 QW ((s,l,()),())=some (c6 s l,()):=by
 refine az (hG _ _ rfl) agl ?_;refine aa (aih hG l hl hf) ?_;unfold c6;by_cases hm:eE l=0
 ·rw[if_neg (by simp[hm])];refine ag (show(eE l != 0)=false by simp[hm]) ?_;exact aa (YV hG s l hw hl (Lj hm) h3) rfl
 ·rw[if_pos hm];exact af (show(eE l != 0)=true by simp[hm]) rfl
end Go.Vs
