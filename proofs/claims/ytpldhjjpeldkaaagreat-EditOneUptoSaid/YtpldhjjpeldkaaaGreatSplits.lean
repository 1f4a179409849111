/- Edges cut and split, vertices smoothed: what the program computes. -/
import Derived.Test.YtpldhjjpeldkaaaGreatFormed
import Derived.Test.YtpldhjjpeldkaaaGreatTop
set_option linter.unusedVariables false
set_option linter.unusedSimpArgs false
namespace Go.Vs
open Go.Proofs
variable {G:(f:FuncId)→(g:aL)→Option (g.A→Option g.B)}
theorem TU(hG:HG G)(v:an)(x:ae):FX G 155 CU ((v,x,()),())=some ((lA v.1 x,()),()):=by
 refine aw (fn:=Tryz.f155) (hG _ _ rfl) (by kernel_rfl) (by kernel_rfl) ((Yl _ _ _).trans ?_)
 exact aa (TQ hG v.1 x) rfl
def de(l:List an)(x:ae):Nat:=l.countP fun v=>j7 v.1 x
theorem EL(l:List an)(x:ae):de l x≤l.length:=List.countP_le_length
theorem wo{l:List an}{x:ae}(h:∀v∈l,j7 v.1 x=false):de l x=0:=by
 unfold de;rw [List.countP_eq_zero];intro v hv;simp [h v hv]
theorem Dc{x:ae}:∀{l:List an},gj l→∀(k:Nat) (v:an),l[k]? = some v→(j7 v.1 x=true↔k<de l x)
 | [],_,k,v,h=>by simp at h
 | w::r,hs,k,v,h=>by
  have hw:∀{u:an},u∈r→j7 w.1 u.1=true:=fun {u} hu=>List.rel_of_pairwise_cons hs hu
  have hr:gj r:=hs.of_cons
  by_cases aJ:j7 w.1 x=true
  ·have e:de (w::r) x=de r x+1:=by unfold de;rw [List.countP_cons_of_pos (by simpa using aJ)]
   cases k with
   | zero=>simp at h;subst h;simp [aJ,e]
   | succ k=>have:=Dc (x:=x) hr k v (by simpa using h);rw [this,e];omega
  ·have hn:∀u∈w::r,j7 u.1 x=false:=fun u hu=>by
    rcases List.mem_cons.1 hu with rfl | hu
    ·simpa using aJ
    ·rw [Bool.eq_false_iff];intro h2;exact aJ (fi (hw hu) h2)
   rw [wo hn,hn v (List.mem_of_getElem? h)]
   simp
theorem PY(hG:HG G)(l:List an)(x:ae)(hs:gj l)(hl:l.length≤50000000):∀(n i j:Nat),j - i≤n→i≤de l x→de l x≤j→j≤l.length →
  LX G 156154 iS Tryz.f154 hZ (aM Tryz.prog 154 0) ((l,(((l.length:Nat):Int),((i:Int),((j:Int),())))),(((x,()),()),()))=some (((((de l x:Nat):Int),(decide ((l[de l x]?).map (·.1)=some x),())):Int×(Bool×Unit)),()):=by
 have sG:=EL l x
 have fin:∀(i j:Nat),¬(i<j)→i≤de l x→de l x≤j→LX G 156154 iS Tryz.f154 hZ (aM Tryz.prog 154 0) ((l,(((l.length:Nat):Int),((i:Int),((j:Int),())))),(((x,()),()),()))=some (((((de l x:Nat):Int),(decide ((l[de l x]?).map (·.1)=some x),())):Int×(Bool×Unit)),()):=fun i j xW h1 h2=>by
  have hi:i=de l x:=by omega
  subst hi
  refine ar (j:=0) (by kernel_rfl) ((AL _ _ _).trans ?_)
  refine ag (decide_eq_false (show ¬(((de l x:Nat):Int)<(j:Int)) by omega)) ?_
  by_cases hc:de l x<l.length
  ·have hx:l[de l x]? = some l[de l x]:=List.getElem?_eq_getElem hc
   refine af (aT hc) ?_
   refine aa (az hx) ?_
   refine aa (TU hG l[de l x] x) ?_
   refine congrArg (fun b:Bool=>some ((((de l x:Nat):Int),(b,())),())) ?_
   rw [hx]
   unfold lA
   by_cases he:l[de l x].1=x
   ·simp [he]
   ·simp [he];split<;>simp
  ·refine ag (decide_eq_false (show ¬(((de l x:Nat):Int)<((l.length:Nat):Int)) by omega)) ?_
   refine congrArg (fun b:Bool=>some ((((de l x:Nat):Int),(b,())),())) ?_
   rw [List.getElem?_eq_none (by omega)];simp
 intro n
 induction n with
 | zero=>intro i j xW h1 h2 h3;exact fin i j (by omega) h1 h2
 | succ n ih =>
  intro i j xW h1 h2 h3
  by_cases aJ:i<j
  case neg=>exact fin i j aJ h1 h2
  refine ar (j:=0) (by kernel_rfl) ((AL _ _ _).trans ?_)
  refine af (decide_eq_true (show ((i:Int)<(j:Int)) by omega)) ?_
  refine ag rfl ?_
  have hm:=I6 (i:=i) (j:=j) (by omega) (by omega)
  have hh:(i+j) / 2<l.length:=by omega
  have hx:l[(i+j) / 2]? = some l[(i+j) / 2]:=List.getElem?_eq_getElem hh
  have m6:=Dc (x:=x) hs ((i+j) / 2) _ hx
  refine aa (show aS l (IntKind.wrap .i64 (kx .u64 (IntKind.wrap .u64 (IntKind.wrap .i64 ((i:Int)+(j:Int)))) (1:Int)))=some l[(i+j) / 2] by rw [hm];exact az hx) ?_
  refine aa (TU hG l[(i+j) / 2] x) ?_
  by_cases ho:j7 l[(i+j) / 2].1 x=true
  ·refine af (decide_eq_true ((ri _ _).2 ho)) ?_
   have hc:=m6.1 ho
   have hw:IntKind.wrap .i64 (IntKind.wrap .i64 (kx .u64 (IntKind.wrap .u64 (IntKind.wrap .i64 ((i:Int)+(j:Int)))) (1:Int))+1)=(((i+j) / 2+1:Nat):Int):=by
    rw [hm];exact aH hh (by omega)
   have:=ih ((i+j) / 2+1) j (by omega) (by omega) h2 h3
   rw [←hw] at this
   exact this
  ·refine ag (decide_eq_false (fun h=>ho ((ri _ _).1 h))) ?_
   have hc:¬(i+j) / 2<de l x:=fun h=>ho (m6.2 h)
   have:=ih i ((i+j) / 2) (by omega) h1 (by omega) (by omega)
   rw [←hm] at this
   exact this
theorem PZ(hG:HG G)(l:List an)(x:ae)(hs:gj l)(hl:l.length≤50000000) :
  FX G 156154 iS ((l,x,()),())=some (((((de l x:Nat):Int),(decide ((l[de l x]?).map (·.1)=some x),())):Int×(Bool×Unit)),()):=by
 refine aw (fn:=Tryz.f154) (hG _ _ rfl) (by kernel_rfl) (by kernel_rfl) ((Pb _ _ _).trans ?_)
 exact PY hG l x hs hl l.length 0 l.length (by omega) (by omega) (EL l x) (Nat.le_refl _)
theorem G8(g:an):∀{l:List an},gj l→kF g l=if (l[de l g.1]?).map (·.1)=some g.1 then l.set (de l g.1) g else l.take (de l g.1)++(g::l.drop (de l g.1))
 | [],_=>rfl
 | w::r,hs=>by
  have hw:∀{u:an},u∈r→j7 w.1 u.1=true:=fun {u} hu=>List.rel_of_pairwise_cons hs hu
  have hr:gj r:=List.Pairwise.of_cons hs
  by_cases aJ:j7 w.1 g.1=true
  ·have e:de (w::r) g.1=de r g.1+1:=by unfold de;rw [List.countP_cons_of_pos (by simpa using aJ)]
   have bj:w.1≠g.1:=fun k=>by rw [k,dy] at aJ;cases aJ
   have pq:¬lA g.1 w.1≤0:=fun k=>by
    rcases oK.1 k with k | k
    ·exact bj k.symm
    ·have:=fi aJ k;rw [dy] at this;cases this
   have ih:=G8 g hr
   rw [e,kF,if_neg pq,if_pos bj,ih]
   simp only [List.getElem?_cons_succ,List.set_cons_succ,List.take_succ_cons,List.drop_succ_cons,List.cons_append]
   split<;>rfl
  ·have hn:∀u∈w::r,j7 u.1 g.1=false:=fun u hu=>by
    rcases List.mem_cons.1 hu with rfl | hu
    ·simpa using aJ
    ·rw [Bool.eq_false_iff];intro h2;exact aJ (fi (hw hu) h2)
   rw [wo hn]
   by_cases he:w.1=g.1
   ·have Vm:lA g.1 w.1≤0:=oK.2 (.inl he.symm)
    have h1:mF g (w::r)=r:=by
     have:mF g (w::r)=mF g r:=by unfold mF;rw [List.filter_cons_of_neg (by simp [he])]
     rw [this]
     exact rq (fun q hq k=>by have:=hw hq;rw [k,he,dy] at this;cases this)
    rw [kF,if_pos Vm,h1,if_pos (by simp [he])];rfl
   ·have HR:j7 g.1 w.1=true:=wi (by simpa using aJ) he
    have Vm:lA g.1 w.1≤0:=oK.2 (.inr HR)
    have h1:mF g (w::r)=w::r:=rq (fun q hq k=>by
     rcases List.mem_cons.1 hq with rfl | hq
     ·exact he k
     ·have:=fi HR (hw hq);rw [k,dy] at this;cases this)
    rw [kF,if_pos Vm,h1,if_neg (by simp [he])];rfl
theorem Dd{x:ae}:∀{l:List an},gj l→(fN l x).isSome=decide ((l[de l x]?).map (·.1)=some x)
 | [],_=>rfl
 | w::r,hs=>by
  have hw:∀{u:an},u∈r→j7 w.1 u.1=true:=fun {u} hu=>List.rel_of_pairwise_cons hs hu
  have hr:gj r:=List.Pairwise.of_cons hs
  rw [oL]
  by_cases aJ:j7 w.1 x=true
  ·have e:de (w::r) x=de r x+1:=by unfold de;rw [List.countP_cons_of_pos (by simpa using aJ)]
   have bj:w.1≠x:=fun k=>by rw [k,dy] at aJ;cases aJ
   rw [e,if_neg bj,Dd hr,List.getElem?_cons_succ]
  ·have hn:∀u∈w::r,j7 u.1 x=false:=fun u hu=>by
    rcases List.mem_cons.1 hu with rfl | hu
    ·simpa using aJ
    ·rw [Bool.eq_false_iff];intro h2;exact aJ (fi (hw hu) h2)
   rw [wo hn]
   by_cases he:w.1=x
   ·simp [he]
   ·have HR:j7 x w.1=true:=wi (by simpa using aJ) he
    have:fN r x=none:=by
     unfold fN
     have:(List.find? (fun q=>decide (q.1=x)) r)=none:=by
      rw [List.find?_eq_none];intro q hq k
      have k:q.1=x:=by simpa using k
      have:=fi HR (hw hq);rw [k,dy] at this;cases this
     rw [this];rfl
    rw [if_neg he,this];simp [he]
theorem Zq(hG:HG G)(l:List an)(g:an)(hs:gj l)(hl:l.length≤50000000):FX G 139 Gh ((l,g,()),())=some ((bK l g,()),()):=by
 refine aw (fn:=Tryz.f139) (hG _ _ rfl) (by kernel_rfl) (by kernel_rfl) ((Yb _ _ _).trans ?_)
 refine aa (PZ hG l g.1 hs hl) ?_
 refine aa (Za (hG _ _ rfl) l hl) ?_
 unfold bK
 rw [Dd hs,G8 g hs]
 have hc:de l g.1≤l.length:=EL l g.1
 by_cases h:(l[de l g.1]?).map (·.1)=some g.1
 ·rw [decide_eq_true h,if_neg (fun k=>by cases k.1),if_pos h]
  refine af rfl ?_
  obtain ⟨u,hu,_⟩:∃u,l[de l g.1]? = some u∧u.1=g.1:=by
   cases hq:l[de l g.1]? with
   | none=>rw [hq] at h;cases h
   | some u=>rw [hq] at h;exact ⟨u,rfl,by simpa using h⟩
  have aJ:=(List.getElem?_eq_some_iff.1 hu).1
  refine af (dx (eL _) (aT aJ)) ?_
  exact aa hu rfl
 ·rw [decide_eq_false h,if_neg h]
  refine ag rfl ?_
  by_cases h4:400≤l.length
  ·rw [if_pos ⟨rfl,h4⟩]
   exact ag (decide_eq_false (show ¬((l.length:Nat):Int)<400 by omega)) rfl
  ·rw [if_neg (fun k=>h4 k.2)]
   refine af (decide_eq_true (show ((l.length:Nat):Int)<400 by omega)) ?_
   have lI:pI l ((de l g.1:Nat):Int) [g]=true:=by
    unfold pI
    rw [decide_eq_true (show (0:Int)≤((de l g.1:Nat):Int) by omega),decide_eq_true (show ((de l g.1:Nat):Int)≤((l.length:Nat):Int) by omega)]
    rw [fits (by simp;omega)];rfl
   refine af lI ?_
   have e:fE l ((de l g.1:Nat):Int) [g]=l.take (de l g.1)++(g::l.drop (de l g.1)):=by unfold fE;simp
   exact congrArg (fun r:List an=>some ((r,()),())) e
theorem De(hG:HG G)(w:aE)(x to:ae)(hs:gj w.2.2.1)(hl:w.2.2.1.length≤50000000):FX G 116 Af ((x,to,()),(w,()))=some ((),((w.1,(w.2.1,(bK w.2.2.1 (x,to),()))),())):=by
 refine aw (fn:=Tryz.f116) (hG _ _ rfl) (by kernel_rfl) (by kernel_rfl) ((XU _ _ _).trans ?_)
 exact aa (Zq hG w.2.2.1 (x,to) hs hl) rfl
theorem Df(hG:HG G)(w:aE)(x:ae)(hw:Rw w.1)(hl:w.1.length≤50000000)(hr:∀v∈w.1,v.2.1.length≤50000000){k:Nat}{v:ai}(hk:w.1[k]? = some v)(hx:x∈v.2.1) :
  FX G 118 lr ((x,()),(w,()))=some (((some ((⟨0,by decide⟩:Fin 1),k)),()),(w,())):=by
 refine aw (fn:=Tryz.f118) (hG _ _ rfl) (by kernel_rfl) (by kernel_rfl) ((XW _ _ _).trans ?_)
 have M3:=(List.getElem?_eq_some_iff.1 hk).1
 have loop:∀(n i:Nat),i+n=k→LX G 118 lr Tryz.f118 uq (aM Tryz.prog 118 0) ((((w.1.length:Nat):Int),((i:Int),())),((w,((x,()),())),()))=some (((some ((⟨0,by decide⟩:Fin 1),k)),()),(w,())):=by
  intro n
  induction n with
  | zero =>
   intro i hi
   have hi:i=k:=by omega
   subst hi
   refine ar (j:=0) (by kernel_rfl) ((J3 _ _ _).trans ?_)
   refine af (aT M3) (af (dx (eL _) (aT M3)) (aa hk ?_))
   refine aa (C3 hG v.2.1 x (by have:=hr v (List.mem_of_getElem? hk);omega)) ?_
   exact af (decide_eq_true hx) rfl
  | succ n ih =>
   intro i hi
   have mC:i<w.1.length:=by omega
   have hu:w.1[i]? = some w.1[i]:=List.getElem?_eq_getElem mC
   have CG:x∉w.1[i].2.1:=fun hxi=>by
    have h1:w.1[i]=v:=hw.one (List.mem_of_getElem? hk) (List.getElem_mem mC) hx hxi
    have h2:=jA hw.s hk rfl
    have h3:=jA hw.s (x:=v.1) hu (by rw [h1])
    omega
   refine ar (j:=0) (by kernel_rfl) ((J3 _ _ _).trans ?_)
   refine af (aT mC) (af (dx (eL _) (aT mC)) (aa hu ?_))
   refine aa (C3 hG w.1[i].2.1 x (by have:=hr _ (List.getElem_mem mC);omega)) ?_
   refine ag (decide_eq_false CG) ?_
   have:=ih (i+1) (by omega)
   rw [←aH mC (by omega)] at this
   exact this
 exact loop k 0 (by omega)
theorem Ja{l:List ai}{k:Nat}{v:ai}(hs:bV l)(hk:l[k]? = some v)(r:List ae):l.set k (v.1,(r,v.2.2))=l.map (q8 v.1 r):=by
 have h:=nE hs (List.mem_of_getElem? hk)
 rw [jA hs hk rfl]
 refine (G1 hs h (q8 v.1 r) (fun u=>(u.1,(r,u.2.2))) (fun u hu => ?_) (fun u hu => ?_)).symm
 ·unfold q8;rw [if_pos hu]
 ·unfold q8;rw [if_neg hu]
theorem qw{l:List ai}{x:ae}(h:x∈av l):∃(k:Nat) (v:ai),l[k]? = some v∧x∈v.2.1∧v∈l:=by
 obtain ⟨v,hv,hx⟩:=bz.1 h
 obtain ⟨k,hk,he⟩:=List.getElem_of_mem hv
 exact ⟨k,v,by rw [List.getElem?_eq_getElem hk,he],hx,hv⟩
structure Sv(l:List ai):Prop where
 n:l.length≤50000000
 r:∀v∈l,v.2.1.length≤50000000
theorem P0{n:Int}(h:n=0∨n=1):eF .xor .i64 n 1=IntKind.wrap .i64 (1 - n):=by
 rcases h with rfl | rfl<;>decide
theorem G9(hG:G 122 ni=none)(x:ae)(h:x.2=0∨x.2=1):FX G 122 ni ((x,()),())=some ((au x,()),()):=by
 refine aw (fn:=Tryz.f122) hG (by kernel_rfl) (by kernel_rfl) ((XZ _ _ _).trans ?_)
 exact congrArg (fun n:Int=>some ((((x.1,n):ae),()),())) (P0 h)
theorem Mc{d:aj}(h:Rw d.1){v:ai}{x:ae}(hv:v∈d.1)(hx:x∈v.2.1):c6 d x=if (iV v.2.1 x).1=x.1 then (if (iV v.2.1 (iV v.2.1 x)).1=x.1 then zD else iV v.2.1 (iV v.2.1 x)) else iV v.2.1 x:=by
 unfold c6
 have e:bJ d ((ct d x).getD zI)=v.2.1:=by
  unfold ct;rw [mI h hv hx];exact jD h.s hv
 simp only [e]
 by_cases h1:(iV v.2.1 x).1=x.1
 ·simp only [if_pos h1]
 ·simp only [if_neg h1]
theorem TV(hG:HG G)(w:aE)(x:ae)(hw:Rw w.1)(hs:Sv w.1)(hx:x∈av w.1)(e:List ah):FX G 117 Ag ((x,()),(w,()))=some ((c6 (w.1,e) x,()),(w,())):=by
 obtain ⟨k,v,hk,kl,hv⟩:=qw hx
 have NT:=hs.r v hv
 refine aw (fn:=Tryz.f117) (hG _ _ rfl) (by kernel_rfl) (by kernel_rfl) ((XV _ _ _).trans ?_)
 rw [Mc (d:=(w.1,e)) hw hv kl]
 have prev:∀y:ae,FX G 140 CS ((v.2.1,y,()),())=some (((iV v.2.1 y),((GI (dw v.2.1 y (v.2.1.length - 1))).2)),()):=fun y=>by
  refine (Zm hG v.2.1 y (by omega)).trans ?_
  have:(GI (dw v.2.1 y (v.2.1.length - 1))).1=iV v.2.1 y:=yw _
  rw [←this]
 have gq:∀y:ae,((y.1.1==x.1.1)&&(y.1.2==x.1.2))=decide (y.1=x.1):=fun y=>iZ y.1 x.1
 refine ar (j:=0) (by kernel_rfl) ((Em _ _ _).trans ?_)
 refine af rfl (aa (Df hG w x hw hs.n hs.r hk kl) ?_)
 refine so rfl (af rfl (aa hk ?_))
 refine aa (prev x) ?_
 by_cases h1:(iV v.2.1 x).1=x.1
 ·rw [if_pos h1]
  refine aN ((gq _).trans (decide_eq_true h1)) ?_
  refine ar (j:=0) (by kernel_rfl) ((Em _ _ _).trans ?_)
  refine af rfl (aa (Df hG w x hw hs.n hs.r hk kl) ?_)
  refine so rfl (af rfl (aa hk ?_))
  refine aa (prev (iV v.2.1 x)) ?_
  by_cases h2:(iV v.2.1 (iV v.2.1 x)).1=x.1
  ·rw [if_pos h2]
   refine aN ((gq _).trans (decide_eq_true h2)) ?_
   refine ar (j:=0) (by kernel_rfl) ((Em _ _ _).trans ?_)
   exact ag rfl rfl
  ·rw [if_neg h2]
   exact aN ((gq _).trans (decide_eq_false h2)) rfl
 ·rw [if_neg h1]
  exact aN ((gq _).trans (decide_eq_false h1)) rfl
theorem Hc{l:List ah}{x:ID}(hs:c5 l)(h:(aW l x).isSome=true)(hl:l.length≤50000000) :
  jc l ((bZ l x:Nat):Int) (IntKind.wrap .i64 (((bZ l x:Nat):Int)+1))=true∧da l ((bZ l x:Nat):Int) (IntKind.wrap .i64 (((bZ l x:Nat):Int)+1))=cP l x:=by
 obtain ⟨e,he⟩:=Option.isSome_iff_exists.1 h
 have aJ:=(List.getElem?_eq_some_iff.1 (lF hs he)).1
 have hw:IntKind.wrap .i64 (((bZ l x:Nat):Int)+1)=((bZ l x+1:Nat):Int):=aH aJ (by omega)
 constructor
 ·rw [hw]
  unfold jc
  rw [decide_eq_true (show (0:Int)≤((bZ l x:Nat):Int) by omega),decide_eq_true (show ((bZ l x:Nat):Int)<((bZ l x+1:Nat):Int) by omega),decide_eq_true (show ((bZ l x+1:Nat):Int)≤((l.length:Nat):Int) by omega),fits (by omega)];rfl
 ·rw [hw,wg hs h]
  unfold da;simp only [Int.toNat_natCast]
theorem P1{l:List ai}{x:ID}(hs:bV l)(h:(aV l x).isSome=true)(hl:l.length≤50000000) :
  jc l ((bD l x:Nat):Int) (IntKind.wrap .i64 (((bD l x:Nat):Int)+1))=true∧da l ((bD l x:Nat):Int) (IntKind.wrap .i64 (((bD l x:Nat):Int)+1))=dE l x:=by
 obtain ⟨e,he⟩:=Option.isSome_iff_exists.1 h
 have aJ:=(List.getElem?_eq_some_iff.1 (c4 hs he)).1
 have hw:IntKind.wrap .i64 (((bD l x:Nat):Int)+1)=((bD l x+1:Nat):Int):=aH aJ (by omega)
 constructor
 ·rw [hw]
  unfold jc
  rw [decide_eq_true (show (0:Int)≤((bD l x:Nat):Int) by omega),decide_eq_true (show ((bD l x:Nat):Int)<((bD l x+1:Nat):Int) by omega),decide_eq_true (show ((bD l x+1:Nat):Int)≤((l.length:Nat):Int) by omega),fits (by omega)];rfl
 ·rw [hw,wb hs h]
  unfold da;simp only [Int.toNat_natCast]
theorem Sv.re{l:List ai}(h:Sv l)(x:ID){r:List ae}(hr:r.length≤50000000):Sv (l.map (q8 x r)):=by
 refine ⟨by simp;exact h.n,fun w hw => ?_⟩
 obtain ⟨u,hu,rfl⟩:=List.mem_map.1 hw
 unfold q8
 split
 ·exact hr
 ·exact h.r u hu
theorem Bb{row:List ae}(d:ae):(gM row d).length≤row.length:=by
 unfold gM;rw [fM];exact List.length_filter_le _ _
theorem Kw{w:aE}{x:ae}(hw:Rw w.1){k:Nat}{v:ai}(hk:w.1[k]? = some v)(hx:x∈v.2.1)(e:List ah):w.1.set k (v.1,(gM v.2.1 x,v.2.2))=(aD (w.1,e) x).1:=by
 rw [jE (d:=(w.1,e)) hw (List.mem_of_getElem? hk) hx]
 exact Ja hw.s hk _
theorem aeB(hG:HG G)(s:StateT)(o:bY)(h:iF s)(hs:Sv s.1.1) :
  ∃(e:Int) (w:aE),FX G 93 Ab ((o,()),(aI s,()))=some ((e,()),(w,()))∧gi e w=EF s o:=by
 have bj:=h.d.ne
 unfold EF
 cases hf:(aW s.1.2 (aY o)).isSome with
 | false =>
  refine ⟨13,aI s,?_,?_⟩
  ·refine aw (fn:=Tryz.f93) (hG _ _ rfl) (by kernel_rfl) (by kernel_rfl) ((XF _ _ _).trans ?_)
   refine aa (nw hG (aI s) (aY o) h.d.se (by show s.1.2.length≤_;omega)) ?_
   exact aN ((c7 (l:=s.1.2) h.d.se).trans hf) rfl
  ·rw [if_pos (show (gq s.1 (aY o)).isSome=false from hf)];rfl
 | true =>
  rw [if_neg (show ¬(gq s.1 (aY o)).isSome=false by show ¬(aW s.1.2 (aY o)).isSome=false;rw [hf];simp)]
  obtain ⟨x,hx⟩:∃x:ae,x=(aY o,0):=⟨_,rfl⟩
  obtain ⟨y,hy⟩:∃y:ae,y=(aY o,1):=⟨_,rfl⟩
  have hxd:x∈av s.1.1:=by rw [hx];exact h.d.mJ hf (.inl rfl)
  have Zr:y∈av s.1.1:=by rw [hy];exact h.d.mJ hf (.inr rfl)
  have g1:=jG h.g h.n (x,c6 s.1 x)
  have hn:=h.n
  obtain ⟨p1,q1⟩:=eV h.d.rw hxd
  have aeD:y∈av (aD s.1 x).1:=by
   rcases List.mem_cons.1 (p1.mem_iff.1 Zr) with k | k
   ·rw [hx,hy] at k;cases k
   ·exact k
  have MM:=jF (jF h.d.gv x) y
  refine ⟨0,((aD (aD s.1 x) y).1,(cP s.1.2 (aY o),(bK (bK s.2 (x,c6 s.1 x)) (y,c6 s.1 y),()))),?_,?_⟩
  ·refine aw (fn:=Tryz.f93) (hG _ _ rfl) (by kernel_rfl) (by kernel_rfl) ((XF _ _ _).trans ?_)
   refine aa (nw hG (aI s) (aY o) h.d.se (by show s.1.2.length≤_;omega)) ?_
   refine aN ((c7 (l:=s.1.2) h.d.se).trans hf) (ag rfl ?_)
   have aeE:FX G 111 Ac ((aY o,()),())=some ((x,y,()),()):=by
    rw [hx,hy];exact aw (fn:=Tryz.f111) (hG _ _ rfl) (by kernel_rfl) (by kernel_rfl) (Ty _ _ _)
   refine aa aeE ?_
   refine ar (j:=0) (by kernel_rfl) ((IP _ _ _).trans ?_)
   refine af rfl (af rfl (aa (a:=x) rfl ?_))
   refine aa (TV hG (aI s) x h.d.rw hs hxd s.1.2) ?_
   refine aa (De hG (aI s) x (c6 s.1 x) h.g (by show s.2.length≤_;omega)) ?_
   refine ar (j:=0) (by kernel_rfl) ((IP _ _ _).trans ?_)
   refine af rfl (af rfl (aa (a:=y) rfl ?_))
   refine aa (TV hG (s.1.1,(s.1.2,(bK s.2 (x,c6 s.1 x),()))) y h.d.rw hs Zr s.1.2) ?_
   refine aa (De hG (s.1.1,(s.1.2,(bK s.2 (x,c6 s.1 x),()))) y (c6 s.1 y) g1.1 (by have:=g1.2;show (bK s.2 (x,c6 s.1 x)).length≤_;omega)) ?_
   refine ar (j:=0) (by kernel_rfl) ((IP _ _ _).trans ?_)
   refine ag rfl ?_
   generalize bK (bK s.2 (x,c6 s.1 x)) (y,c6 s.1 y)=gg
   obtain ⟨k,v,hk,kl,hv⟩:=qw hxd
   refine ar (j:=1) (by kernel_rfl) ((IQ _ _ _).trans ?_)
   refine af rfl (af rfl (aa (a:=x) rfl ?_))
   refine aa (Df hG (s.1.1,(s.1.2,(gg,()))) x h.d.rw hs.n hs.r hk kl) ?_
   refine so rfl (af rfl (aa hk ?_))
   refine aa (TS hG v.2.1 x (h.d.rw.ring hv) (hs.r v hv)) ?_
   refine aa hk ?_
   have e1:s.1.1.set k (v.1,(gM v.2.1 x,v.2.2))=(aD s.1 x).1:=Kw (w:=(s.1.1,(s.1.2,(gg,())))) h.d.rw hk kl s.1.2
   have D3:Sv (aD s.1 x).1:=by
    rw [jE h.d.rw hv kl]
    exact hs.re _ (Nat.le_trans (Bb x) (hs.r v hv))
   obtain ⟨k2,v2,nK,Zn,wL⟩:=qw aeD
   have e2:(aD s.1 x).1.set k2 (v2.1,(gM v2.2.1 y,v2.2.2))=(aD (aD s.1 x) y).1:=Kw (w:=((aD s.1 x).1,(s.1.2,(gg,())))) q1 nK Zn (aD s.1 x).2
   have rest:∀a:List ai,a=(aD s.1 x).1→LX G 93 Ab Tryz.f93 vS (aM Tryz.prog 93 1) ((((bZ s.1.2 (aY o):Nat):Int),((2:Int),((1:Int),()))),(((a,(s.1.2,(gg,()))),()),([x,y],())))=some (((0:Int),()),(((aD (aD s.1 x) y).1,(cP s.1.2 (aY o),(gg,()))),())):=by
    intro a ha
    subst ha
    refine ar (j:=1) (by kernel_rfl) ((IQ _ _ _).trans ?_)
    refine af rfl (af rfl (aa (a:=y) rfl ?_))
    refine aa (Df hG ((aD s.1 x).1,(s.1.2,(gg,()))) y q1 D3.n D3.r nK Zn) ?_
    refine so rfl (af rfl (aa nK ?_))
    refine aa (TS hG v2.2.1 y (q1.ring wL) (D3.r v2 wL)) ?_
    refine aa nK ?_
    have last:∀b:List ai,b=(aD (aD s.1 x) y).1→LX G 93 Ab Tryz.f93 vS (aM Tryz.prog 93 1) ((((bZ s.1.2 (aY o):Nat):Int),((2:Int),((2:Int),()))),(((b,(s.1.2,(gg,()))),()),([x,y],())))=some (((0:Int),()),(((aD (aD s.1 x) y).1,(cP s.1.2 (aY o),(gg,()))),())):=by
     intro b hb
     subst hb
     refine ar (j:=1) (by kernel_rfl) ((IQ _ _ _).trans ?_)
     obtain ⟨d1,d2⟩:=Hc h.d.se hf (by omega)
     refine ag rfl (af d1 ?_)
     exact congrArg (fun l:List ah=>some (((0:Int),()),(((aD (aD s.1 x) y).1,(l,(gg,()))),()))) d2
    exact last _ e2
   exact rest _ e1
  ·rw [←hx,←hy]
   unfold bw
   rw [uQ MM]
   rfl
end Go.Vs
namespace Go.Vs
open Go.Proofs
variable {G:(f:FuncId)→(g:aL)→Option (g.A→Option g.B)}
theorem Jb{n:Int}(h0:0≤n)(h3:n≤3):eF .xor .i64 1 (eF .and .i64 n 1)=IntKind.wrap .i64 (1 - Int.tmod n 2)∧kx .i64 n 1=IntKind.wrap .i64 (Int.tdiv n 2):=by
 have:n=0∨n=1∨n=2∨n=3:=by omega
 rcases this with rfl | rfl | rfl | rfl<;>exact ⟨by decide,by decide⟩
theorem Hd{l:List ai}{x:ae}(hw:Rw l){k:Nat}{v:ai}(hk:l[k]? = some v)(hx:x∈v.2.1)(y:ae)(e:List ah):l.set k (v.1,(jg v.2.1 x y,v.2.2))=(aF (l,e) x y).1:=by
 rw [A5 (d:=(l,e)) hw y (List.mem_of_getElem? hk) hx]
 exact Ja hw.s hk _
theorem aeF(hG:HG G)(s:StateT)(o:bY)(h:iF s)(hs:Sv s.1.1)(hm:dG o=0)(Vn:o.1=5) :
    ∃(e:Int) (w:aE),FX G 94 xM ((o,()),(aI s,()))=some ((e,()),(w,()))∧gi e w=lD s o:=by
  have bj:=h.d.ne;have Rk:=h.d.nv
  obtain ⟨m1,m2,m3,m4⟩:=C9 hm Vn
  obtain ⟨s1,s2⟩:=G7 m3 m4
  obtain ⟨c1,c2⟩:=Jb m3 m4
  have key:∀(e:Int) (w:aE),FX G 94 xM ((o,()),(aI s,()))=some ((e,()),(w,()))→gi e w=lD s o→∃(e:Int) (w:aE),FX G 94 xM ((o,()),(aI s,()))=some ((e,()),(w,()))∧gi e w=lD s o:=fun e w a b=>⟨e,w,a,b⟩
  have start:∀(e:Int) (w:aE),bW 94 xM Tryz.f94 (FX G) (LX G 94 xM Tryz.f94) ((o,()),(aI s,()))=some ((e,()),(w,()))→FX G 94 xM ((o,()),(aI s,()))=some ((e,()),(w,())):=fun e w a =>
    aw (fn:=Tryz.f94) (hG _ _ rfl) (by kernel_rfl) (by kernel_rfl) a
  unfold lD
  cases hf:(aW s.1.2 (aY o)).isSome with
  | false =>
    refine ⟨13,aI s,start _ _ ((RQ _ _ _).trans ?_),?_⟩
    · refine aa (nw hG (aI s) (aY o) h.d.se (by show s.1.2.length≤_;omega)) ?_
      refine aa (oZ hG (aI s) (eE o) h.d.sv (by show s.1.1.length≤_;omega)) ?_
      refine aa (nw hG (aI s) (ba o) h.d.se (by show s.1.2.length≤_;omega)) ?_
      exact aN ((c7 (l:=s.1.2) h.d.se).trans hf) rfl
    · rw [if_pos (show (gq s.1 (aY o)).isSome=false from hf)];rfl
  | true =>
  rw [if_neg (show ¬(gq s.1 (aY o)).isSome=false by show ¬(aW s.1.2 (aY o)).isSome=false;rw [hf];simp)]
  cases RB:(aV s.1.1 (eE o)).isSome with
  | true =>
    refine ⟨12,aI s,start _ _ ((RQ _ _ _).trans ?_),?_⟩
    · refine aa (nw hG (aI s) (aY o) h.d.se (by show s.1.2.length≤_;omega)) ?_
      refine aa (oZ hG (aI s) (eE o) h.d.sv (by show s.1.1.length≤_;omega)) ?_
      refine aa (nw hG (aI s) (ba o) h.d.se (by show s.1.2.length≤_;omega)) ?_
      refine aN ((c7 (l:=s.1.2) h.d.se).trans hf) (ag rfl ?_)
      exact af ((fh (l:=s.1.1) h.d.sv).trans RB) rfl
    · rw [if_pos (show (bm s.1 (eE o)).isSome=true from RB)];rfl
  | false =>
  rw [if_neg (show ¬(bm s.1 (eE o)).isSome=true by show ¬(aV s.1.1 (eE o)).isSome=true;rw [RB];simp)]
  cases RU:(aW s.1.2 (ba o)).isSome with
  | true =>
    refine ⟨12,aI s,start _ _ ((RQ _ _ _).trans ?_),?_⟩
    · refine aa (nw hG (aI s) (aY o) h.d.se (by show s.1.2.length≤_;omega)) ?_
      refine aa (oZ hG (aI s) (eE o) h.d.sv (by show s.1.1.length≤_;omega)) ?_
      refine aa (nw hG (aI s) (ba o) h.d.se (by show s.1.2.length≤_;omega)) ?_
      refine aN ((c7 (l:=s.1.2) h.d.se).trans hf) (ag rfl ?_)
      refine ag ((fh (l:=s.1.1) h.d.sv).trans RB) ?_
      exact af ((c7 (l:=s.1.2) h.d.se).trans RU) rfl
    · rw [if_pos (show (gq s.1 (ba o)).isSome=true from RU)];rfl
  | false =>
  rw [if_neg (show ¬(gq s.1 (ba o)).isSome=true by show ¬(aW s.1.2 (ba o)).isSome=true;rw [RU];simp)]
  have aeG:aV s.1.1 (eE o)=none:=by simpa using RB
  have aeH:aW s.1.2 (ba o)=none:=by simpa using RU
  obtain ⟨m,MG⟩:∃m:ae,m=HS o:=⟨_,rfl⟩
  obtain ⟨kk,Rp⟩:∃m:ae,m=E0 o:=⟨_,rfl⟩
  have hmd:m∈av s.1.1:=by rw [MG];exact h.d.mJ hf s1
  have HQ:au kk∉av s.1.1:=by rw [Rp];exact h.d.yC aeH _
  obtain ⟨p1,q1⟩:=oJ h.d.rw hmd HQ
  have nK:kk.2=0∨kk.2=1:=by rw [Rp];exact s2
  obtain ⟨k,v,hk,kl,hv⟩:=qw hmd
  have e1:s.1.1.set k (v.1,(jg v.2.1 m (au kk),v.2.2))=(aF s.1 m (au kk)).1:=Hd h.d.rw hk kl _ s.1.2
  have hlen:(aF s.1 m (au kk)).1.length=s.1.1.length:=by unfold aF;exact fQ _ _ _
  have Si:aV (aF s.1 m (au kk)).1 (eE o)=none:=by
    unfold aF Vs.b6
    rw [nu (qu _ _),aeG];rfl
  have eM:((aY o,eF .xor .i64 1 (eF .and .i64 (oN o) 1)):ae)=m:=by rw [MG,c1];rfl
  have eK:((ba o,kx .i64 (oN o) 1):ae)=kk:=by rw [Rp,c2];rfl
  have go:∀(e:Int) (w:aE),(∀a:List ai,a=(aF s.1 m (au kk)).1→((FX G 90 F7 (((eE o,(cp [m,kk],(e0,(0:Int)))),()),((a,(s.1.2,(s.2,()))),()))).bind fun (kB:((Int×Unit)×(aE×Unit))) =>
       cond (kB.1.1 != (0:Int))
        (some (kB.1,((kB.2.1.1,(kB.2.1.2.1,kB.2.1.2.2)),())))
        ((FX G 110 xd ((ba o,()),((kB.2.1.1,(kB.2.1.2.1,kB.2.1.2.2)),()))).bind fun (mE:((Int×Unit)×(aE×Unit))) =>
        some (mE.1,((mE.2.1.1,(mE.2.1.2.1,mE.2.1.2.2)),()))))=some ((e,()),(w,())))→FX G 94 xM ((o,()),(aI s,()))=some ((e,()),(w,())):=fun e w rest=>by
    refine start _ _ ((RQ _ _ _).trans ?_)
    refine aa (nw hG (aI s) (aY o) h.d.se (by show s.1.2.length≤_;omega)) ?_
    refine aa (oZ hG (aI s) (eE o) h.d.sv (by show s.1.1.length≤_;omega)) ?_
    refine aa (nw hG (aI s) (ba o) h.d.se (by show s.1.2.length≤_;omega)) ?_
    refine aN ((c7 (l:=s.1.2) h.d.se).trans hf) (ag rfl ?_)
    refine ag ((fh (l:=s.1.1) h.d.sv).trans RB) ?_
    refine ag ((c7 (l:=s.1.2) h.d.se).trans RU) ?_
    refine ag rfl ?_
    have body:∀mm k2:ae,mm=m→k2=kk→((FX G 118 lr ((mm,()),(aI s,()))).bind fun (y4:(((Option ((Fin 1)×Nat))×Unit)×(aE×Unit))) =>
      pH y4.1.1
       (none) fun (p5:((Fin 1)×Nat)) =>
      cond (p5.1.val==0)
       (((y4.2.1.1)[p5.2]?).bind fun (y6:ai) =>
       (FX G 122 ni ((k2,()),())).bind fun (y7:((ae×Unit)×Unit)) =>
       (FX G 121 rZ ((y6.2.1,(mm,((y7.1.1.1,y7.1.1.2),()))),())).bind fun (y8:(((List ae)×Unit)×Unit)) =>
       ((y4.2.1.1)[p5.2]?).bind fun (y9:ai) =>
       (FX G 123 qe (([mm,k2],()),())).bind fun (oC:(((List ae)×Unit)×Unit)) =>
       (FX G 90 F7 (((eE o,(oC.1.1,((⟨#[]⟩:ByteArray),(0:Int)))),()),(((List.set y4.2.1.1 p5.2 (y9.1,(y8.1.1,y9.2.2))),(y4.2.1.2.1,y4.2.1.2.2)),()))).bind fun (kB:((Int×Unit)×(aE×Unit))) =>
       cond (kB.1.1 != (0:Int))
        (some (kB.1,((kB.2.1.1,(kB.2.1.2.1,kB.2.1.2.2)),())))
        ((FX G 110 xd ((ba o,()),((kB.2.1.1,(kB.2.1.2.1,kB.2.1.2.2)),()))).bind fun (mE:((Int×Unit)×(aE×Unit))) =>
        some (mE.1,((mE.2.1.1,(mE.2.1.2.1,mE.2.1.2.2)),()))))
       (none))=some ((e,()),(w,())):=by
      intro mm k2 aeI aeJ
      subst aeI aeJ
      refine aa (Df hG (aI s) mm h.d.rw hs.n hs.r hk kl) ?_
      refine so rfl (af rfl (aa hk ?_))
      refine aa (G9 (hG _ _ rfl) k2 nK) ?_
      refine aa (TT hG v.2.1 mm (au k2) (hs.r v hv)) ?_
      refine aa hk ?_
      refine aa (C4 hG [mm,k2] (by simp)) ?_
      exact rest _ e1
    exact body _ _ eM eK
  have aeK:24≤s.1.1.length→o4 ((aF s.1 m (au kk)).1,(s.1.2,(s.2,()))) (eE o,(cp [m,kk],(e0,0)))=(3,((aF s.1 m (au kk)).1,(s.1.2,(s.2,())))):=fun hb=>by
    unfold o4
    rw [if_neg (by rw [show aV ((aF s.1 m (au kk)).1,(s.1.2,(s.2,()))).1 ((eE o,(cp [m,kk],(e0,0))):ai).1=none from Si];simp)]
    rw [if_pos (by show 24≤(aF s.1 m (au kk)).1.length;omega)]
  have Vo:¬24≤s.1.1.length→o4 ((aF s.1 m (au kk)).1,(s.1.2,(s.2,()))) (eE o,(cp [m,kk],(e0,0)))=(0,(dW (eE o,(cp [m,kk],(e0,0))) (aF s.1 m (au kk)).1,(s.1.2,(s.2,())))):=fun hb=>by
    unfold o4
    rw [if_neg (by rw [show aV ((aF s.1 m (au kk)).1,(s.1.2,(s.2,()))).1 ((eE o,(cp [m,kk],(e0,0))):ai).1=none from Si];simp)]
    rw [if_neg (by show ¬24≤(aF s.1 m (au kk)).1.length;omega)]
  by_cases hb:24≤s.1.1.length
  · refine ⟨3,((aF s.1 m (au kk)).1,(s.1.2,(s.2,()))),go _ _ (fun a ha => ?_),?_⟩
    · subst ha
      refine aa (Sc hG ((aF s.1 m (au kk)).1,(s.1.2,(s.2,()))) (eE o,(cp [m,kk],(e0,0))) q1.s (by show (aF s.1 m (au kk)).1.length≤_;omega)) ?_
      rw [aeK hb]
      exact af rfl rfl
    · rw [if_pos hb];rfl
  rw [if_neg hb]
  have hE:sq (dW (eE o,(cp [m,kk],(e0,0))) (aF s.1 m (au kk)).1,(s.1.2,(s.2,()))) (ba o)=if 40≤s.1.2.length then (3,(dW (eE o,(cp [m,kk],(e0,0))) (aF s.1 m (au kk)).1,(s.1.2,(s.2,())))) else (0,(dW (eE o,(cp [m,kk],(e0,0))) (aF s.1 m (au kk)).1,(dn (ba o,(e0,0)) s.1.2,(s.2,())))):=by
    unfold sq
    rw [if_neg (by show ¬(aW s.1.2 (ba o)).isSome=true;rw [RU];simp)]
  have fin:FX G 94 xM ((o,()),(aI s,()))=some (((sq (dW (eE o,(cp [m,kk],(e0,0))) (aF s.1 m (au kk)).1,(s.1.2,(s.2,()))) (ba o)).1,()),((sq (dW (eE o,(cp [m,kk],(e0,0))) (aF s.1 m (au kk)).1,(s.1.2,(s.2,()))) (ba o)).2,())):=by
    refine go _ _ (fun a ha => ?_)
    subst ha
    refine aa (Sc hG ((aF s.1 m (au kk)).1,(s.1.2,(s.2,()))) (eE o,(cp [m,kk],(e0,0))) q1.s (by show (aF s.1 m (au kk)).1.length≤_;omega)) ?_
    rw [Vo hb]
    refine ag rfl ?_
    exact aa (TP hG (dW (eE o,(cp [m,kk],(e0,0))) (aF s.1 m (au kk)).1,(s.1.2,(s.2,()))) (ba o) h.d.se (by show s.1.2.length≤_;omega)) rfl
  rw [hE] at fin
  by_cases YA:40≤s.1.2.length
  · rw [if_pos YA] at fin ⊢
    exact ⟨_,_,fin,rfl⟩
  · rw [if_neg YA] at fin ⊢
    refine ⟨_,_,fin,?_⟩
    rw [MG,Rp];rfl
theorem aeL(hG:HG G)(s:StateT)(o:bY)(h:iF s)(hs:Sv s.1.1) :
    ∃(e:Int) (w:aE),FX G 95 qd ((o,()),(aI s,()))=some ((e,()),(w,()))∧gi e w=kG s o:=by
  have bj:=h.d.ne;have Rk:=h.d.nv;have hgn:=h.n
  have start:∀(e:Int) (w:aE),bW 95 qd Tryz.f95 (FX G) (LX G 95 qd Tryz.f95) ((o,()),(aI s,()))=some ((e,()),(w,()))→FX G 95 qd ((o,()),(aI s,()))=some ((e,()),(w,())):=fun e w a =>
    aw (fn:=Tryz.f95) (hG _ _ rfl) (by kernel_rfl) (by kernel_rfl) a
  unfold kG
  cases hf:aV s.1.1 (aY o) with
  | none =>
    refine ⟨13,aI s,start _ _ ((XG _ _ _).trans ?_),?_⟩
    · refine aa (oZ hG (aI s) (aY o) h.d.sv (by show s.1.1.length≤_;omega)) ?_
      exact aN ((fh (l:=s.1.1) h.d.sv).trans (by rw [hf])) rfl
    · rw [show bm s.1 (aY o)=none from hf];rfl
  | some v =>
  have hfs:(aV s.1.1 (aY o)).isSome=true:=by rw [hf];rfl
  have hv:=fY hf
  have Zp:=kb hf
  have mw:=c4 h.d.sv hf
  have aJ:=(List.getElem?_eq_some_iff.1 mw).1
  have hgr:=h.d.rw
  have go:∀(e:Int) (w:aE),(cond ((((List.length v.2.1):Nat):Int) != (2:Int)) (some (((14:Int),()),(aI s,()))) _=some ((e,()),(w,())))→FX G 95 qd ((o,()),(aI s,()))=some ((e,()),(w,())):=fun e w rest=>by
    refine start _ _ ((XG _ _ _).trans ?_)
    refine aa (oZ hG (aI s) (aY o) h.d.sv (by show s.1.1.length≤_;omega)) ?_
    refine aN ((fh (l:=s.1.1) h.d.sv).trans hfs) (ag rfl ?_)
    refine af (dx (eL _) (aT aJ)) (aa mw ?_)
    exact rest
  rw [show bm s.1 (aY o)=some v from hf]
  by_cases rM:v.2.1.length=2
  case neg =>
    refine ⟨14,aI s,go _ _ (af (by rw [bne_iff_ne];omega) rfl),?_⟩
    show gi 14 (aI s)=(match v.2.1 with | [r0,r1]=>jN s o r0 r1 | _=>(zS,(14,())))
    split
    · rename_i hr;rw [hr] at rM;exact absurd rfl rM
    · rfl
  obtain ⟨r0,r1,hr⟩:∃r0 r1,v.2.1=[r0,r1]:=by
    match hq:v.2.1,rM with
    | [a,b],_=>exact ⟨a,b,rfl⟩
  have CO:(((List.length v.2.1:Nat):Int) != (2:Int))=false:=by rw [rM];rfl
  have g0:aS v.2.1 (0:Int)=some r0:=by rw [hr];rfl
  have g1:aS v.2.1 (1:Int)=some r1:=by rw [hr];rfl
  show ∃(e:Int) (w:aE),FX G 95 qd ((o,()),(aI s,()))=some ((e,()),(w,()))∧gi e w=(match v.2.1 with | [r0,r1]=>jN s o r0 r1 | _=>(zS,(14,())))
  rw [hr]
  show ∃(e:Int) (w:aE),FX G 95 qd ((o,()),(aI s,()))=some ((e,()),(w,()))∧gi e w=jN s o r0 r1
  unfold jN
  by_cases Wt:r0.1=r1.1
  · refine ⟨14,aI s,go _ _ (ag CO (aa g0 (aa g1 (af ((iZ r0.1 r1.1).trans (decide_eq_true Wt)) rfl)))),?_⟩
    rw [if_pos Wt];rfl
  rw [if_neg Wt]
  have b01:=(iZ r0.1 r1.1).trans (decide_eq_false Wt)
  have tail:∀a b:ae,v.2.1.Perm [a,b]→a.1≠b.1→((FX G 122 ni ((b,()),())).bind fun (y7:((ae×Unit)×Unit)) =>
        cond (jc s.1.1 ((bD s.1.1 (aY o):Nat):Int) (IntKind.wrap .i64 (((bD s.1.1 (aY o):Nat):Int)+(1:Int))))
         ((FX G 118 lr (((y7.1.1.1,y7.1.1.2),()),(((da s.1.1 ((bD s.1.1 (aY o):Nat):Int) (IntKind.wrap .i64 (((bD s.1.1 (aY o):Nat):Int)+(1:Int)))),(s.1.2,(s.2,()))),()))).bind fun (y8:(((Option ((Fin 1)×Nat))×Unit)×(aE×Unit))) =>
         pH y8.1.1
          (none) fun (p9:((Fin 1)×Nat)) =>
         cond (p9.1.val==0)
          (((y8.2.1.1)[p9.2]?).bind fun (oC:ai) =>
          (FX G 121 rZ ((oC.2.1,((y7.1.1.1,y7.1.1.2),(a,()))),())).bind fun (kB:(((List ae)×Unit)×Unit)) =>
          ((y8.2.1.1)[p9.2]?).bind fun (mE:ai) =>
          (FX G 115 l8 ((b.1,()),(((List.set y8.2.1.1 p9.2 (mE.1,(kB.1.1,mE.2.2))),(y8.2.1.2.1,y8.2.1.2.2)),()))).bind fun (kC:((Int×(Bool×Unit))×(aE×Unit))) =>
          cond (jc kC.2.1.2.1 kC.1.1 (IntKind.wrap .i64 (kC.1.1+(1:Int))))
           (LX G 95 qd Tryz.f95 mD (aM Tryz.prog 95 0) (((0:Int),()),(((kC.2.1.1,((da kC.2.1.2.1 kC.1.1 (IntKind.wrap .i64 (kC.1.1+(1:Int)))),kC.2.1.2.2)),((a,()),((b,()),(((y7.1.1.1,y7.1.1.2),()),())))),())))
           (none))
          (none))
         (none))=some (((0:Int),()),(((I4 s o a b).1,((I4 s o a b).2,(GU s.2 a b,()))),())):=by
    intro a b hp r9
    obtain ⟨p,q,h1,_,h2,_⟩:=tj h.d.sv hv
    have pd:(av s.1.1).Perm (a::b::av (p++q)):=by
      have:=(jB p q v).trans (List.Perm.append_right _ hp)
      rw [←h1] at this;exact this
    have Kx:dE s.1.1 (aY o)=p++q:=by rw [←Zp];exact h2
    have Mb:bw s.1 (aY o) zI=(p++q,s.1.2):=by unfold bw;rw [Kx,yz h.d.ge]
    have EZ:=pd.nodup_iff.1 hgr.n
    have hbm:b∈ends s.1.2:=h.d.pd.mem_iff.1 (pd.mem_iff.2 (by simp))
    obtain ⟨e,he,Xh,xX⟩:=dP.1 hbm
    have yg:(aW s.1.2 b.1).isSome=true:=by
      unfold aW;rw [List.find?_isSome];exact ⟨e,he,by simpa using Xh⟩
    obtain ⟨_,ho⟩:=rr xX
    have Vl:au b∈av (p++q):=by
      have h3:au b∈av s.1.1:=h.d.mJ (s:=(au b).2) yg (by rcases ho with ⟨_,k⟩ | ⟨_,k⟩<;>omega)
      rcases List.mem_cons.1 (pd.mem_iff.1 h3) with k | k
      · exact absurd (congrArg Prod.fst k) (fun k=>r9 k.symm)
      rcases List.mem_cons.1 k with k | k
      · have:=congrArg Prod.snd k;omega
      · exact k
    have Sj:Rw (p++q):=⟨by rw [←h2];exact oH h.d.sv,(List.nodup_cons.1 (List.nodup_cons.1 EZ).2).2⟩
    have bu:∀u∈p++q,u∈s.1.1:=fun u hu=>by
      rw [h1]
      rcases List.mem_append.1 hu with k | k
      · exact List.mem_append_left _ k
      · exact List.mem_append_right _ (List.mem_cons_of_mem _ k)
    have D3:Sv (p++q):=⟨by
      have:=hs.n;rw [h1] at this;simp at this ⊢;omega,fun u hu=>hs.r u (bu u hu)⟩
    obtain ⟨dk1,dk2⟩:=P1 h.d.sv hfs (by omega)
    rw [Kx] at dk2
    obtain ⟨k,u,hk,hxu,hu⟩:=qw Vl
    have e1:(p++q).set k (u.1,(jg u.2.1 (au b) a,u.2.2))=(aF (p++q,s.1.2) (au b) a).1:=Hd Sj hk hxu _ s.1.2
    have MM:∀w∈(aF (p++q,s.1.2) (au b) a).1,GV w:=tk (d:=(p++q,s.1.2)) (fun w hw=>h.d.gv w (bu w hw)) _ _
    have eD:I4 s o a b=((aF (p++q,s.1.2) (au b) a).1,cP s.1.2 b.1):=by
      unfold I4
      rw [Mb]
      unfold bw
      rw [uQ MM];rfl
    have ga:=jG h.g h.n ((b.1,0),pn a b 0)
    rw [eD]
    refine aa (G9 (hG _ _ rfl) b xX) ?_
    refine af dk1 ?_
    have r1:∀l1:List ai,l1=p++q→((FX G 118 lr ((au b,()),((l1,(s.1.2,(s.2,()))),()))).bind fun (y8:(((Option ((Fin 1)×Nat))×Unit)×(aE×Unit))) =>
         pH y8.1.1
          (none) fun (p9:((Fin 1)×Nat)) =>
         cond (p9.1.val==0)
          (((y8.2.1.1)[p9.2]?).bind fun (oC:ai) =>
          (FX G 121 rZ ((oC.2.1,(au b,(a,()))),())).bind fun (kB:(((List ae)×Unit)×Unit)) =>
          ((y8.2.1.1)[p9.2]?).bind fun (mE:ai) =>
          (FX G 115 l8 ((b.1,()),(((List.set y8.2.1.1 p9.2 (mE.1,(kB.1.1,mE.2.2))),(y8.2.1.2.1,y8.2.1.2.2)),()))).bind fun (kC:((Int×(Bool×Unit))×(aE×Unit))) =>
          cond (jc kC.2.1.2.1 kC.1.1 (IntKind.wrap .i64 (kC.1.1+(1:Int))))
           (LX G 95 qd Tryz.f95 mD (aM Tryz.prog 95 0) (((0:Int),()),(((kC.2.1.1,((da kC.2.1.2.1 kC.1.1 (IntKind.wrap .i64 (kC.1.1+(1:Int)))),kC.2.1.2.2)),((a,()),((b,()),((au b,()),())))),())))
           (none))
          (none))=some (((0:Int),()),(((aF (p++q,s.1.2) (au b) a).1,(cP s.1.2 b.1,(GU s.2 a b,()))),())):=by
      intro l1 hl1
      subst hl1
      refine aa (Df hG (p++q,(s.1.2,(s.2,()))) (au b) Sj D3.n D3.r hk hxu) ?_
      refine so rfl (af rfl (aa hk ?_))
      refine aa (TT hG u.2.1 (au b) a (D3.r u hu)) ?_
      refine aa hk ?_
      have r2:∀l2:List ai,l2=(aF (p++q,s.1.2) (au b) a).1→((FX G 115 l8 ((b.1,()),((l2,(s.1.2,(s.2,()))),()))).bind fun (kC:((Int×(Bool×Unit))×(aE×Unit))) =>
          cond (jc kC.2.1.2.1 kC.1.1 (IntKind.wrap .i64 (kC.1.1+(1:Int))))
           (LX G 95 qd Tryz.f95 mD (aM Tryz.prog 95 0) (((0:Int),()),(((kC.2.1.1,((da kC.2.1.2.1 kC.1.1 (IntKind.wrap .i64 (kC.1.1+(1:Int)))),kC.2.1.2.2)),((a,()),((b,()),((au b,()),())))),())))
           (none))=some (((0:Int),()),(((aF (p++q,s.1.2) (au b) a).1,(cP s.1.2 b.1,(GU s.2 a b,()))),())):=by
        intro l2 rM
        subst rM
        refine aa (nw hG ((aF (p++q,s.1.2) (au b) a).1,(s.1.2,(s.2,()))) b.1 h.d.se (by show s.1.2.length≤_;omega)) ?_
        obtain ⟨ek1,ek2⟩:=Hc h.d.se yg (by omega)
        refine af ek1 ?_
        have r3:∀l3:List ah,l3=cP s.1.2 b.1→(LX G 95 qd Tryz.f95 mD (aM Tryz.prog 95 0) (((0:Int),()),((((aF (p++q,s.1.2) (au b) a).1,(l3,(s.2,()))),((a,()),((b,()),((au b,()),())))),())))=some (((0:Int),()),(((aF (p++q,s.1.2) (au b) a).1,(cP s.1.2 b.1,(GU s.2 a b,()))),())):=by
          intro l3 hl3
          subst hl3
          have eb:b=(b.1,b.2):=rfl
          have eo:au b=(b.1,(au b).2):=rfl
          rcases ho with ⟨Ca,M7⟩ | ⟨LL,ho0⟩
          · rw [Ca] at eb;rw [M7] at eo
            have t0:pn a b 0=zD:=by unfold pn;rw [if_neg (by rw [eo];simp)]
            have t1:pn a b 1=a:=by unfold pn;rw [if_pos eo.symm]
            rw [t0,←eb] at ga
            have eG:GU s.2 a b=bK (bK s.2 (b,zD)) (au b,a):=by unfold GU;rw [t0,t1,←eb,←eo]
            rw [eG]
            refine ar (j:=0) (by kernel_rfl) ((vV _ _ _).trans ?_)
            refine af rfl (af (by show (b.2==(0:Int))=true;simp [Ca]) ?_)
            refine aa (De hG ((aF (p++q,s.1.2) (au b) a).1,(cP s.1.2 b.1,(s.2,()))) b zD h.g (by show s.2.length≤_;omega)) ?_
            refine ar (j:=0) (by kernel_rfl) ((vV _ _ _).trans ?_)
            refine af rfl (ag (by show (b.2==(1:Int))=false;simp [Ca]) ?_)
            refine aa (De hG ((aF (p++q,s.1.2) (au b) a).1,(cP s.1.2 b.1,(bK s.2 (b,zD),()))) (au b) a ga.1 (by have:=ga.2;show (bK s.2 (b,zD)).length≤_;omega)) ?_
            refine ar (j:=0) (by kernel_rfl) ((vV _ _ _).trans ?_)
            exact ag rfl rfl
          · rw [LL] at eb;rw [ho0] at eo
            have t0:pn a b 0=a:=by unfold pn;rw [if_pos eo.symm]
            have t1:pn a b 1=zD:=by unfold pn;rw [if_neg (by rw [eo];simp)]
            rw [t0,←eo] at ga
            have eG:GU s.2 a b=bK (bK s.2 (au b,a)) (b,zD):=by unfold GU;rw [t0,t1,←eb,←eo]
            rw [eG]
            refine ar (j:=0) (by kernel_rfl) ((vV _ _ _).trans ?_)
            refine af rfl (ag (by show (b.2==(0:Int))=false;simp [LL]) ?_)
            refine aa (De hG ((aF (p++q,s.1.2) (au b) a).1,(cP s.1.2 b.1,(s.2,()))) (au b) a h.g (by show s.2.length≤_;omega)) ?_
            refine ar (j:=0) (by kernel_rfl) ((vV _ _ _).trans ?_)
            refine af rfl (af (by show (b.2==(1:Int))=true;simp [LL]) ?_)
            refine aa (De hG ((aF (p++q,s.1.2) (au b) a).1,(cP s.1.2 b.1,(bK s.2 (au b,a),()))) b zD ga.1 (by have:=ga.2;show (bK s.2 (au b,a)).length≤_;omega)) ?_
            refine ar (j:=0) (by kernel_rfl) ((vV _ _ _).trans ?_)
            exact ag rfl rfl
        exact r3 _ ek2
      exact r2 _ e1
    exact r1 _ dk2
  have bo:∀y:ae,((y.1.1==(ba o).1)&&(y.1.2==(ba o).2))=decide (y.1=ba o):=fun y=>iZ y.1 (ba o)
  by_cases h0:r0.1=ba o
  · rw [if_pos h0]
    refine ⟨0,((I4 s o r1 r0).1,((I4 s o r1 r0).2,(GU s.2 r1 r0,()))),go _ _ (ag CO (aa g0 (aa g1 (ag b01 (aa g0 (aa g1 (af ((bo r0).trans (decide_eq_true h0)) ?_))))))),rfl⟩
    refine aN ((bo r0).trans (decide_eq_true h0)) (ag rfl ?_)
    exact tail r1 r0 (by rw [hr];exact List.Perm.swap _ _ _) (fun k=>Wt k.symm)
  rw [if_neg h0]
  by_cases h1:r1.1=ba o
  · rw [if_pos h1]
    refine ⟨0,((I4 s o r0 r1).1,((I4 s o r0 r1).2,(GU s.2 r0 r1,()))),go _ _ (ag CO (aa g0 (aa g1 (ag b01 (aa g0 (aa g1 (ag ((bo r0).trans (decide_eq_false h0)) ?_))))))),rfl⟩
    refine aN ((bo r1).trans (decide_eq_true h1)) (ag rfl ?_)
    exact tail r0 r1 (by rw [hr]) Wt
  rw [if_neg h1]
  refine ⟨14,aI s,go _ _ (ag CO (aa g0 (aa g1 (ag b01 (aa g0 (aa g1 (ag ((bo r0).trans (decide_eq_false h0)) ?_))))))),rfl⟩
  exact aN ((bo r1).trans (decide_eq_false h1)) (af rfl rfl)
end Go.Vs
namespace Go.Vs
open Go.Proofs
theorem Dg{row:List ae}(hn:row.Nodup){i j:Nat}{hi:i<row.length}{hj:j<row.length}(h:row[i]=row[j]):i=j:=by
 rcases Nat.lt_trichotomy i j with k | k | k
 ·exact absurd h (List.pairwise_iff_getElem.1 hn i j hi hj k)
 ·exact k
 ·exact absurd h.symm (List.pairwise_iff_getElem.1 hn j i hj hi k)
theorem Dh{row:List ae}(hn:row.Nodup){i j:Nat}{x:ae}(hi:row[i]? = some x)(hj:row[j]? = some x):i=j:=by
 obtain ⟨h1,h2⟩:=List.getElem?_eq_some_iff.1 hi
 obtain ⟨h3,h4⟩:=List.getElem?_eq_some_iff.1 hj
 exact Dg hn (h2.trans h4.symm)
theorem He(row:List ae):∃j,j≤row.length∧cp row=BL row j:=by
 by_cases h0:row.length=0
 ·have:row=[]:=by simpa using h0
  subst this;exact ⟨0,by simp,rfl⟩
 ·exact ⟨eZ row row 0 0,Nat.le_of_lt (oE row row 0 0 (by omega) (by omega)),rfl⟩
theorem Sk{row:List ae}(hn:row.Nodup){k:Nat}{x:ae}(hk:row[k]? = some x):idx x row 0=(k:Int):=by
 have:=I7 (d:=x) (row:=row) (k:=k) (i:=0) hk (fun j hj he=>by have:=Dh hn hk he;omega)
 omega
end Go.Vs
namespace Go.Vs
open Go.Proofs
variable {G:(f:FuncId)→(g:aL)→Option (g.A→Option g.B)}
theorem Md(l:List ai)(x:ID):l.any (fun w=>decide (w.1=x))=(aV l x).isSome:=by
 rw [Bool.eq_iff_iff,List.any_eq_true];unfold aV;rw [List.find?_isSome]
theorem Me(l:List ah)(x:ID):l.any (fun w=>decide (w.1=x))=(aW l x).isSome:=by
 rw [Bool.eq_iff_iff,List.any_eq_true];unfold aW;rw [List.find?_isSome]
theorem Mf(s:StateT)(o:bY):gi (tg (aI s) o).1 (tg (aI s) o).2=vZ s o:=by
 unfold tg vZ GR ED
 rw [Md,Me]
 by_cases ho:mH o=true
 ·have hv:s.1.1.map (iD o)=s.1.1:=by
   conv=>rhs;rw [←List.map_id s.1.1]
   exact List.map_congr_left fun u hu=>by unfold iD;rw [if_neg (by rw [ho];simp)];rfl
  rw [if_pos ho,ho,hv]
  show gi (if (aW s.1.2 (aY o)).isSome=true then _ else _:Int×aE).1 (if (aW s.1.2 (aY o)).isSome=true then _ else _:Int×aE).2=_
  cases (aW s.1.2 (aY o)).isSome<;>rfl
 ·have my:mH o=false:=by simpa using ho
  have he:s.1.2.map (jz o)=s.1.2:=by
   conv=>rhs;rw [←List.map_id s.1.2]
   exact List.map_congr_left fun u hu=>by unfold jz;rw [if_neg (by rw [my];simp)];rfl
  rw [if_neg ho,my,he]
  show gi (if (aV s.1.1 (aY o)).isSome=true then _ else _:Int×aE).1 (if (aV s.1.1 (aY o)).isSome=true then _ else _:Int×aE).2=_
  cases (aV s.1.1 (aY o)).isSome<;>rfl
theorem P2(hG:HG G)(w:aE)(o:bY)(hk:7≤o.1)(hv:bV w.1)(he:c5 w.2.1)(MK:w.1.length≤50000000)(hle:w.2.1.length≤50000000) :
  FX G 66 xG ((o,()),(w,()))=some (((tg w o).1,()),((tg w o).2,())):=by
 refine aw (fn:=Tryz.f66) (hG _ _ rfl) (by kernel_rfl) (by kernel_rfl) ((El _ _ _).trans ?_)
 have kn:∀k:Int,k<7→(o.1==k)=false:=fun k nK=>xp (by omega)
 refine ag (kn 1 (by omega)) (ag (kn 2 (by omega)) (ag (kn 3 (by omega)) (ag (kn 4 (by omega)) (ag (kn 5 (by omega)) (ag (kn 6 (by omega)) ?_)))))
 exact aa (aey hG w o hv he MK hle) rfl
def opL(x:ID)(e:Bool)(t:ByteArray):bY:=(7,(x,(zI,(zI,(zC,(zC,(e,(t,0))))))))
def opA(x:ID)(e:Bool)(n:Int):bY:=(8,(x,(zI,(zI,(zC,(zC,(e,(e0,n))))))))
structure Lay(s t:StateT):Prop where
 v:bV t.1.1
 e:c5 t.1.2
 sm:Sm t.1
 g:t.2.length≤50000000
end Go.Vs
namespace Go.Vs
open Go.Proofs
variable {G:(f:FuncId)→(g:aL)→Option (g.A→Option g.B)}
theorem Hf(l:List ah):(ends l).length=2 * l.length:=by
 induction l with
 | nil=>rfl
 | cons e r ih=>rw [jC];simp [ih];omega
theorem Sn{l:List ai}{v:ai}(h:v∈l):v.2.1.length≤(av l).length:=by
 obtain ⟨a,b,rfl⟩:=List.append_of_mem h
 rw [nD,ia];simp;omega
theorem Wf.tl{d:aj}(h:Wf d):∀v∈d.1,v.2.1.length≤80:=fun v hv=>by
 have h1:=Sn hv
 have h2:=h.pd.length_eq
 have h3:=h.ne
 rw [Hf] at h2;omega
theorem Wf.sm{d:aj}(h:Wf d):Sm d:=⟨by have:=h.nv;omega,by have:=h.ne;omega,fun v hv=>by have:=h.tl v hv;omega⟩
theorem Wf.small{d:aj}(h:Wf d):Sv d.1:=⟨by have:=h.nv;omega,fun v hv=>by have:=h.tl v hv;omega⟩
theorem Mg(s:StateT)(o:bY):gi (o4 (aI s) (aY o,([],(e0,0)))).1 (o4 (aI s) (aY o,([],(e0,0)))).2=sj s o:=by
 by_cases hh:(aV s.1.1 (aY o)).isSome=true
 ·have a:o4 (aI s) (aY o,([],(e0,0)))=(12,aI s):=if_pos hh
  have b:sj s o=(zS,(12,())):=if_pos hh
  rw [a,b];rfl
 by_cases h:24≤s.1.1.length
 ·have a:o4 (aI s) (aY o,([],(e0,0)))=(3,aI s):=(if_neg hh).trans (if_pos h)
  have b:sj s o=(zS,(3,())):=(if_neg hh).trans (if_pos h)
  rw [a,b];rfl
 ·have a:o4 (aI s) (aY o,([],(e0,0)))=(0,(dW (aY o,([],(e0,0))) (aI s).1,(aI s).2)):=(if_neg hh).trans (if_neg h)
  have b:sj s o=(((dW (aY o,([],(e0,0))) s.1.1,s.1.2),s.2),(0,())):=(if_neg hh).trans (if_neg h)
  rw [a,b];rfl
theorem Mh{s:StateT}(h:iF s)(o:bY):gi (xn (aI s) (aY o)).1 (xn (aI s) (aY o)).2=xm s o:=by
 unfold xn xm bm
 show gi (match aV s.1.1 (aY o) with | none=>(13,aI s) | some v=>if 0<v.2.1.length then (14,aI s) else (0,(dE s.1.1 (aY o),(s.1.2,(s.2,())))):Int×aE).1 (match aV s.1.1 (aY o) with | none=>(13,aI s) | some v=>if 0<v.2.1.length then (14,aI s) else (0,(dE s.1.1 (aY o),(s.1.2,(s.2,())))):Int×aE).2=_
 cases aV s.1.1 (aY o) with
 | none=>rfl
 | some v =>
  simp only
  by_cases hl:0<v.2.1.length
  ·rw [if_pos hl,if_pos hl];rfl
  ·rw [if_neg hl,if_neg hl]
   unfold bw
   rw [yz h.d.ge];rfl
def P3(s:StateT)(o:bY):StateT×(Int×Unit) :=
 if o.1=1 then sj s o else if o.1=2 then xm s o else if o.1=3 then qt s o else if o.1=4 then EF s o else if o.1=5 then lD s o else if o.1=6 then kG s o else vZ s o
theorem Mi(s:StateT)(o:bY):rF s o=if dG o≠0 then (zS,(dG o,())) else P3 s o:=rfl
theorem P4(hG:HG G)(s:StateT)(o:bY)(h:iF s)(hm:dG o=0)(h3:o.1=3→∃(e:Int) (w:aE),FX G 92 ng ((o,()),(aI s,()))=some ((e,()),(w,()))∧gi e w=qt s o) :
  ∃(e:Int) (w:aE),FX G 66 xG ((o,()),(aI s,()))=some ((e,()),(w,()))∧gi e w=P3 s o:=by
 have hk:=A9 hm
 have So:=h.d.small
 have Rk:=h.d.nv;have bj:=h.d.ne
 have start:∀(e:Int) (w:aE),bW 66 xG Tryz.f66 (FX G) (LX G 66 xG Tryz.f66) ((o,()),(aI s,()))=some ((e,()),(w,()))→FX G 66 xG ((o,()),(aI s,()))=some ((e,()),(w,())):=fun e w a =>
  aw (fn:=Tryz.f66) (hG _ _ rfl) (by kernel_rfl) (by kernel_rfl) a
 unfold P3
 by_cases h1:o.1=1
 ·rw [if_pos h1]
  refine ⟨_,_,start _ _ ((El _ _ _).trans (af (E1 h1) (aa (Sc hG (aI s) (aY o,([],(e0,0))) h.d.sv So.n) rfl))),?_⟩
  exact Mg s o
 rw [if_neg h1]
 by_cases h2:o.1=2
 ·rw [if_pos h2]
  refine ⟨_,_,start _ _ ((El _ _ _).trans (ag (xp h1) (af (E1 h2) (aa (Zb hG (aI s) o h.d.sv So.n) rfl)))),?_⟩
  exact Mh h o
 rw [if_neg h2]
 by_cases ML:o.1=3
 ·rw [if_pos ML]
  obtain ⟨e,w,a,b⟩:=h3 ML
  exact ⟨e,w,start _ _ ((El _ _ _).trans (ag (xp h1) (ag (xp h2) (af (E1 ML) (aa a rfl))))),b⟩
 rw [if_neg ML]
 by_cases Zs:o.1=4
 ·rw [if_pos Zs]
  obtain ⟨e,w,a,b⟩:=aeB hG s o h So
  exact ⟨e,w,start _ _ ((El _ _ _).trans (ag (xp h1) (ag (xp h2) (ag (xp ML) (af (E1 Zs) (aa a rfl)))))),b⟩
 rw [if_neg Zs]
 by_cases Vn:o.1=5
 ·rw [if_pos Vn]
  obtain ⟨e,w,a,b⟩:=aeF hG s o h So hm Vn
  exact ⟨e,w,start _ _ ((El _ _ _).trans (ag (xp h1) (ag (xp h2) (ag (xp ML) (ag (xp Zs) (af (E1 Vn) (aa a rfl))))))),b⟩
 rw [if_neg Vn]
 by_cases hk6:o.1=6
 ·rw [if_pos hk6]
  obtain ⟨e,w,a,b⟩:=aeL hG s o h So
  exact ⟨e,w,start _ _ ((El _ _ _).trans (ag (xp h1) (ag (xp h2) (ag (xp ML) (ag (xp Zs) (ag (xp Vn) (af (E1 hk6) (aa a rfl)))))))),b⟩
 rw [if_neg hk6]
 refine ⟨_,_,P2 hG (aI s) o (by omega) h.d.sv h.d.se So.n (by show s.1.2.length≤_;omega),?_⟩
 exact Mf s o
theorem P5(hG:HG G)(s:StateT)(o:bY)(h:iF s)(hf:Fit o)(h3:dG o=0→o.1=3→∃(e:Int) (w:aE),FX G 92 ng ((o,()),(aI s,()))=some ((e,()),(w,()))∧gi e w=qt s o) :
  FX G 14 Ea ((s,o,()),())=some (rF s o,()):=by
 rw [Mi]
 have hn:=h.n
 by_cases hm:dG o=0
 ·obtain ⟨e,w,a,b⟩:=P4 hG s o h hm (h3 hm)
  refine (Ks hG s o (Zh hG o hf) h.d.sm (by omega) (fun _=>a)).trans ?_
  rw [hm,if_neg (by simp),b];rfl
 ·rw [if_pos hm]
  refine aw (fn:=Tryz.f14) (hG _ _ rfl) (by kernel_rfl) (by kernel_rfl) ((XB _ _ _).trans ?_)
  refine aa (Zh hG o hf) ?_
  exact af (by simpa using hm) rfl
end Go.Vs
namespace Go.Vs
open Go.Proofs
variable {G:(f:FuncId)→(g:aL)→Option (g.A→Option g.B)}
def EM(G:(f:FuncId)→(g:aL)→Option (g.A→Option g.B))(o:bY):Prop:=∀s,iF s→dG o=0→o.1=3→∃(e:Int) (w:aE),FX G 92 ng ((o,()),(aI s,()))=some ((e,()),(w,()))∧gi e w=qt s o
end Go.Vs
