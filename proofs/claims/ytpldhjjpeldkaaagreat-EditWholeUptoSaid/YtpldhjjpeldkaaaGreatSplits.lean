/- Edges cut and split, vertices smoothed: what the program computes. -/
import Derived.Test.YtpldhjjpeldkaaaGreatFormed
import Derived.Test.YtpldhjjpeldkaaaGreatTop
set_option linter.unusedVariables false
set_option linter.unusedSimpArgs false
namespace Go.Vs
open Go.Proofs
variable {G:(f:FuncId)→(g:aJ)→Option (g.A→Option g.B)}
theorem Ts(hG:HG G)(v:ak)(x:ab):FX G 155 CG ((v,x,()),())=some ((mD v.1 x,()),()):=by
 refine au (fn:=Tryz.f155) (hG _ _ rfl) (by kernel_rfl) (by kernel_rfl) ((X1 _ _ _).trans ?_)
 exact aa (Tl hG v.1 x) rfl
def dg(l:List ak)(x:ab):Nat:=l.countP fun v=>ku v.1 x
theorem Ex(l:List ak)(x:ab):dg l x≤l.length:=List.countP_le_length
theorem vS{l:List ak}{x:ab}(h:∀v∈l,ku v.1 x=false):dg l x=0:=by
 unfold dg;rw [List.countP_eq_zero];intro v hv;simp [h v hv]
theorem C0{x:ab}:∀{l:List ak},iw l→∀(k:Nat) (v:ak),l[k]? = some v→(ku v.1 x=true↔k<dg l x)
 | [],_,k,v,h=>by simp at h
 | w::r,hs,k,v,h=>by
  have hw:∀{u:ak},u∈r→ku w.1 u.1=true:=fun {u} hu=>List.rel_of_pairwise_cons hs hu
  have hr:iw r:=hs.of_cons
  by_cases aG:ku w.1 x=true
  ·have e:dg (w::r) x=dg r x+1:=by unfold dg;rw [List.countP_cons_of_pos (by simpa using aG)]
   cases k with
   | zero=>simp at h;subst h;simp [aG,e]
   | succ k=>have:=C0 (x:=x) hr k v (by simpa using h);rw [this,e];omega
  ·have hn:∀u∈w::r,ku u.1 x=false:=fun u hu=>by
    rcases List.mem_cons.1 hu with rfl | hu
    ·simpa using aG
    ·rw [Bool.eq_false_iff];intro h2;exact aG (fX (hw hu) h2)
   rw [vS hn,hn v (List.mem_of_getElem? h)]
   simp
theorem Pw(hG:HG G)(l:List ak)(x:ab)(hs:iw l)(hl:l.length≤50000000):∀(n i j:Nat),j - i≤n→i≤dg l x→dg l x≤j→j≤l.length →
  LX G 156154 iQ Tryz.f154 hP (aP Tryz.prog 154 0) ((l,(((l.length:Nat):Int),((i:Int),((j:Int),())))),(((x,()),()),()))=some (((((dg l x:Nat):Int),(decide ((l[dg l x]?).map (·.1)=some x),())):Int×(Bool×Unit)),()):=by
 have te:=Ex l x
 have fin:∀(i j:Nat),¬(i<j)→i≤dg l x→dg l x≤j→LX G 156154 iQ Tryz.f154 hP (aP Tryz.prog 154 0) ((l,(((l.length:Nat):Int),((i:Int),((j:Int),())))),(((x,()),()),()))=some (((((dg l x:Nat):Int),(decide ((l[dg l x]?).map (·.1)=some x),())):Int×(Bool×Unit)),()):=fun i j yP h1 h2=>by
  have hi:i=dg l x:=by omega
  subst hi
  refine ar (j:=0) (by kernel_rfl) ((Ax _ _ _).trans ?_)
  refine ag (decide_eq_false (show ¬(((dg l x:Nat):Int)<(j:Int)) by omega)) ?_
  by_cases hc:dg l x<l.length
  ·have hx:l[dg l x]? = some l[dg l x]:=List.getElem?_eq_getElem hc
   refine ae (aT hc) ?_
   refine aa (aK hx) ?_
   refine aa (Ts hG l[dg l x] x) ?_
   refine congrArg (fun b:Bool=>some ((((dg l x:Nat):Int),(b,())),())) ?_
   rw [hx]
   unfold mD
   by_cases he:l[dg l x].1=x
   ·simp [he]
   ·simp [he];split<;>simp
  ·refine ag (decide_eq_false (show ¬(((dg l x:Nat):Int)<((l.length:Nat):Int)) by omega)) ?_
   refine congrArg (fun b:Bool=>some ((((dg l x:Nat):Int),(b,())),())) ?_
   rw [List.getElem?_eq_none (by omega)];simp
 intro n
 induction n with
 | zero=>intro i j yP h1 h2 h3;exact fin i j (by omega) h1 h2
 | succ n ih =>
  intro i j yP h1 h2 h3
  by_cases aG:i<j
  case neg=>exact fin i j aG h1 h2
  refine ar (j:=0) (by kernel_rfl) ((Ax _ _ _).trans ?_)
  refine ae (decide_eq_true (show ((i:Int)<(j:Int)) by omega)) ?_
  refine ag rfl ?_
  have hm:=IU (i:=i) (j:=j) (by omega) (by omega)
  have hh:(i+j) / 2<l.length:=by omega
  have hx:l[(i+j) / 2]? = some l[(i+j) / 2]:=List.getElem?_eq_getElem hh
  have mZ:=C0 (x:=x) hs ((i+j) / 2) _ hx
  refine aa (show aZ l (IntKind.wrap .i64 (kz .u64 (IntKind.wrap .u64 (IntKind.wrap .i64 ((i:Int)+(j:Int)))) (1:Int)))=some l[(i+j) / 2] by rw [hm];exact aK hx) ?_
  refine aa (Ts hG l[(i+j) / 2] x) ?_
  by_cases ho:ku l[(i+j) / 2].1 x=true
  ·refine ae (decide_eq_true ((xZ _ _).2 ho)) ?_
   have hc:=mZ.1 ho
   have hw:IntKind.wrap .i64 (IntKind.wrap .i64 (kz .u64 (IntKind.wrap .u64 (IntKind.wrap .i64 ((i:Int)+(j:Int)))) (1:Int))+1)=(((i+j) / 2+1:Nat):Int):=by
    rw [hm];exact aI hh (by omega)
   have:=ih ((i+j) / 2+1) j (by omega) (by omega) h2 h3
   rw [←hw] at this
   exact this
  ·refine ag (decide_eq_false (fun h=>ho ((xZ _ _).1 h))) ?_
   have hc:¬(i+j) / 2<dg l x:=fun h=>ho (mZ.2 h)
   have:=ih i ((i+j) / 2) (by omega) h1 (by omega) (by omega)
   rw [←hm] at this
   exact this
theorem Px(hG:HG G)(l:List ak)(x:ab)(hs:iw l)(hl:l.length≤50000000) :
  FX G 156154 iQ ((l,x,()),())=some (((((dg l x:Nat):Int),(decide ((l[dg l x]?).map (·.1)=some x),())):Int×(Bool×Unit)),()):=by
 refine au (fn:=Tryz.f154) (hG _ _ rfl) (by kernel_rfl) (by kernel_rfl) ((OM _ _ _).trans ?_)
 exact Pw hG l x hs hl l.length 0 l.length (by omega) (by omega) (Ex l x) (Nat.le_refl _)
theorem GZ(g:ak):∀{l:List ak},iw l→kG g l=if (l[dg l g.1]?).map (·.1)=some g.1 then l.set (dg l g.1) g else l.take (dg l g.1)++(g::l.drop (dg l g.1))
 | [],_=>rfl
 | w::r,hs=>by
  have hw:∀{u:ak},u∈r→ku w.1 u.1=true:=fun {u} hu=>List.rel_of_pairwise_cons hs hu
  have hr:iw r:=List.Pairwise.of_cons hs
  by_cases aG:ku w.1 g.1=true
  ·have e:dg (w::r) g.1=dg r g.1+1:=by unfold dg;rw [List.countP_cons_of_pos (by simpa using aG)]
   have bh:w.1≠g.1:=fun k=>by rw [k,dy] at aG;cases aG
   have pN:¬mD g.1 w.1≤0:=fun k=>by
    rcases oC.1 k with k | k
    ·exact bh k.symm
    ·have:=fX aG k;rw [dy] at this;cases this
   have ih:=GZ g hr
   rw [e,kG,if_neg pN,if_pos bh,ih]
   simp only [List.getElem?_cons_succ,List.set_cons_succ,List.take_succ_cons,List.drop_succ_cons,List.cons_append]
   split<;>rfl
  ·have hn:∀u∈w::r,ku u.1 g.1=false:=fun u hu=>by
    rcases List.mem_cons.1 hu with rfl | hu
    ·simpa using aG
    ·rw [Bool.eq_false_iff];intro h2;exact aG (fX (hw hu) h2)
   rw [vS hn]
   by_cases he:w.1=g.1
   ·have UX:mD g.1 w.1≤0:=oC.2 (.inl he.symm)
    have h1:mE g (w::r)=r:=by
     have:mE g (w::r)=mE g r:=by unfold mE;rw [List.filter_cons_of_neg (by simp [he])]
     rw [this]
     exact rh (fun q hq k=>by have:=hw hq;rw [k,he,dy] at this;cases this)
    rw [kG,if_pos UX,h1,if_pos (by simp [he])];rfl
   ·have HK:ku g.1 w.1=true:=vP (by simpa using aG) he
    have UX:mD g.1 w.1≤0:=oC.2 (.inr HK)
    have h1:mE g (w::r)=w::r:=rh (fun q hq k=>by
     rcases List.mem_cons.1 hq with rfl | hq
     ·exact he k
     ·have:=fX HK (hw hq);rw [k,dy] at this;cases this)
    rw [kG,if_pos UX,h1,if_neg (by simp [he])];rfl
theorem C1{x:ab}:∀{l:List ak},iw l→(fN l x).isSome=decide ((l[dg l x]?).map (·.1)=some x)
 | [],_=>rfl
 | w::r,hs=>by
  have hw:∀{u:ak},u∈r→ku w.1 u.1=true:=fun {u} hu=>List.rel_of_pairwise_cons hs hu
  have hr:iw r:=List.Pairwise.of_cons hs
  rw [oD]
  by_cases aG:ku w.1 x=true
  ·have e:dg (w::r) x=dg r x+1:=by unfold dg;rw [List.countP_cons_of_pos (by simpa using aG)]
   have bh:w.1≠x:=fun k=>by rw [k,dy] at aG;cases aG
   rw [e,if_neg bh,C1 hr,List.getElem?_cons_succ]
  ·have hn:∀u∈w::r,ku u.1 x=false:=fun u hu=>by
    rcases List.mem_cons.1 hu with rfl | hu
    ·simpa using aG
    ·rw [Bool.eq_false_iff];intro h2;exact aG (fX (hw hu) h2)
   rw [vS hn]
   by_cases he:w.1=x
   ·simp [he]
   ·have HK:ku x w.1=true:=vP (by simpa using aG) he
    have:fN r x=none:=by
     unfold fN
     have:(List.find? (fun q=>decide (q.1=x)) r)=none:=by
      rw [List.find?_eq_none];intro q hq k
      have k:q.1=x:=by simpa using k
      have:=fX HK (hw hq);rw [k,dy] at this;cases this
     rw [this];rfl
    rw [if_neg he,this];simp [he]
theorem Y6(hG:HG G)(l:List ak)(g:ak)(hs:iw l)(hl:l.length≤50000000):FX G 139 F9 ((l,g,()),())=some ((bK l g,()),()):=by
 refine au (fn:=Tryz.f139) (hG _ _ rfl) (by kernel_rfl) (by kernel_rfl) ((XR _ _ _).trans ?_)
 refine aa (Px hG l g.1 hs hl) ?_
 refine aa (RG (hG _ _ rfl) l hl) ?_
 unfold bK
 rw [C1 hs,GZ g hs]
 have hc:dg l g.1≤l.length:=Ex l g.1
 by_cases h:(l[dg l g.1]?).map (·.1)=some g.1
 ·rw [decide_eq_true h,if_neg (fun k=>by cases k.1),if_pos h]
  refine ae rfl ?_
  obtain ⟨u,hu,_⟩:∃u,l[dg l g.1]? = some u∧u.1=g.1:=by
   cases hq:l[dg l g.1]? with
   | none=>rw [hq] at h;cases h
   | some u=>rw [hq] at h;exact ⟨u,rfl,by simpa using h⟩
  have aG:=(List.getElem?_eq_some_iff.1 hu).1
  refine ae (dx (eI _) (aT aG)) ?_
  exact aa hu rfl
 ·rw [decide_eq_false h,if_neg h]
  refine ag rfl ?_
  by_cases h4:400≤l.length
  ·rw [if_pos ⟨rfl,h4⟩]
   exact ag (decide_eq_false (show ¬((l.length:Nat):Int)<400 by omega)) rfl
  ·rw [if_neg (fun k=>h4 k.2)]
   refine ae (decide_eq_true (show ((l.length:Nat):Int)<400 by omega)) ?_
   have lJ:pq l ((dg l g.1:Nat):Int) [g]=true:=by
    unfold pq
    rw [decide_eq_true (show (0:Int)≤((dg l g.1:Nat):Int) by omega),decide_eq_true (show ((dg l g.1:Nat):Int)≤((l.length:Nat):Int) by omega)]
    rw [fits (by simp;omega)];rfl
   refine ae lJ ?_
   have e:fE l ((dg l g.1:Nat):Int) [g]=l.take (dg l g.1)++(g::l.drop (dg l g.1)):=by unfold fE;simp
   exact congrArg (fun r:List ak=>some ((r,()),())) e
theorem C2(hG:HG G)(w:aC)(x to:ab)(hs:iw w.2.2.1)(hl:w.2.2.1.length≤50000000):FX G 116 zP ((x,to,()),(w,()))=some ((),((w.1,(w.2.1,(bK w.2.2.1 (x,to),()))),())):=by
 refine au (fn:=Tryz.f116) (hG _ _ rfl) (by kernel_rfl) (by kernel_rfl) ((XA _ _ _).trans ?_)
 exact aa (Y6 hG w.2.2.1 (x,to) hs hl) rfl
theorem C3(hG:HG G)(w:aC)(x:ab)(hw:Rw w.1)(hl:w.1.length≤50000000)(hr:∀v∈w.1,v.2.1.length≤50000000){k:Nat}{v:ah}(hk:w.1[k]? = some v)(hx:x∈v.2.1) :
  FX G 118 lx ((x,()),(w,()))=some (((some ((⟨0,by decide⟩:Fin 1),k)),()),(w,())):=by
 refine au (fn:=Tryz.f118) (hG _ _ rfl) (by kernel_rfl) (by kernel_rfl) ((XC _ _ _).trans ?_)
 have MP:=(List.getElem?_eq_some_iff.1 hk).1
 have loop:∀(n i:Nat),i+n=k→LX G 118 lx Tryz.f118 ua (aP Tryz.prog 118 0) ((((w.1.length:Nat):Int),((i:Int),())),((w,((x,()),())),()))=some (((some ((⟨0,by decide⟩:Fin 1),k)),()),(w,())):=by
  intro n
  induction n with
  | zero =>
   intro i hi
   have hi:i=k:=by omega
   subst hi
   refine ar (j:=0) (by kernel_rfl) ((JR _ _ _).trans ?_)
   refine ae (aT MP) (ae (dx (eI _) (aT MP)) (aa hk ?_))
   refine aa (CR hG v.2.1 x (by have:=hr v (List.mem_of_getElem? hk);omega)) ?_
   exact ae (decide_eq_true hx) rfl
  | succ n ih =>
   intro i hi
   have nI:i<w.1.length:=by omega
   have hu:w.1[i]? = some w.1[i]:=List.getElem?_eq_getElem nI
   have Cs:x∉w.1[i].2.1:=fun hxi=>by
    have h1:w.1[i]=v:=hw.one (List.mem_of_getElem? hk) (List.getElem_mem nI) hx hxi
    have h2:=jA hw.s hk rfl
    have h3:=jA hw.s (x:=v.1) hu (by rw [h1])
    omega
   refine ar (j:=0) (by kernel_rfl) ((JR _ _ _).trans ?_)
   refine ae (aT nI) (ae (dx (eI _) (aT nI)) (aa hu ?_))
   refine aa (CR hG w.1[i].2.1 x (by have:=hr _ (List.getElem_mem nI);omega)) ?_
   refine ag (decide_eq_false Cs) ?_
   have:=ih (i+1) (by omega)
   rw [←aI nI (by omega)] at this
   exact this
 exact loop k 0 (by omega)
theorem IY{l:List ah}{k:Nat}{v:ah}(hs:bW l)(hk:l[k]? = some v)(r:List ab):l.set k (v.1,(r,v.2.2))=l.map (qW v.1 r):=by
 have h:=nw hs (List.mem_of_getElem? hk)
 rw [jA hs hk rfl]
 refine (GQ hs h (qW v.1 r) (fun u=>(u.1,(r,u.2.2))) (fun u hu => ?_) (fun u hu => ?_)).symm
 ·unfold qW;rw [if_pos hu]
 ·unfold qW;rw [if_neg hu]
theorem qo{l:List ah}{x:ab}(h:x∈aw l):∃(k:Nat) (v:ah),l[k]? = some v∧x∈v.2.1∧v∈l:=by
 obtain ⟨v,hv,hx⟩:=bD.1 h
 obtain ⟨k,hk,he⟩:=List.getElem_of_mem hv
 exact ⟨k,v,by rw [List.getElem?_eq_getElem hk,he],hx,hv⟩
structure Sv(l:List ah):Prop where
 n:l.length≤50000000
 r:∀v∈l,v.2.1.length≤50000000
theorem Py{n:Int}(h:n=0∨n=1):eC .xor .i64 n 1=IntKind.wrap .i64 (1 - n):=by
 rcases h with rfl | rfl<;>decide
theorem G1(hG:G 122 nc=none)(x:ab)(h:x.2=0∨x.2=1):FX G 122 nc ((x,()),())=some ((aq x,()),()):=by
 refine au (fn:=Tryz.f122) hG (by kernel_rfl) (by kernel_rfl) ((XF _ _ _).trans ?_)
 exact congrArg (fun n:Int=>some ((((x.1,n):ab),()),())) (Py h)
theorem LZ{d:ai}(h:Rw d.1){v:ah}{x:ab}(hv:v∈d.1)(hx:x∈v.2.1):c4 d x=if (iS v.2.1 x).1=x.1 then (if (iS v.2.1 (iS v.2.1 x)).1=x.1 then zD else iS v.2.1 (iS v.2.1 x)) else iS v.2.1 x:=by
 unfold c4
 have e:bJ d ((cr d x).getD zI)=v.2.1:=by
  unfold cr;rw [mG h hv hx];exact jE h.s hv
 simp only [e]
 by_cases h1:(iS v.2.1 x).1=x.1
 ·simp only [if_pos h1]
 ·simp only [if_neg h1]
theorem Tt(hG:HG G)(w:aC)(x:ab)(hw:Rw w.1)(hs:Sv w.1)(hx:x∈aw w.1)(e:List af):FX G 117 zQ ((x,()),(w,()))=some ((c4 (w.1,e) x,()),(w,())):=by
 obtain ⟨k,v,hk,km,hv⟩:=qo hx
 have NF:=hs.r v hv
 refine au (fn:=Tryz.f117) (hG _ _ rfl) (by kernel_rfl) (by kernel_rfl) ((XB _ _ _).trans ?_)
 rw [LZ (d:=(w.1,e)) hw hv km]
 have prev:∀y:ab,FX G 140 CE ((v.2.1,y,()),())=some (((iS v.2.1 y),((GA (dw v.2.1 y (v.2.1.length - 1))).2)),()):=fun y=>by
  refine (Y2 hG v.2.1 y (by omega)).trans ?_
  have:(GA (dw v.2.1 y (v.2.1.length - 1))).1=iS v.2.1 y:=xW _
  rw [←this]
 have gH:∀y:ab,((y.1.1==x.1.1)&&(y.1.2==x.1.2))=decide (y.1=x.1):=fun y=>jc y.1 x.1
 refine ar (j:=0) (by kernel_rfl) ((Ea _ _ _).trans ?_)
 refine ae rfl (aa (C3 hG w x hw hs.n hs.r hk km) ?_)
 refine rZ rfl (ae rfl (aa hk ?_))
 refine aa (prev x) ?_
 by_cases h1:(iS v.2.1 x).1=x.1
 ·rw [if_pos h1]
  refine aX ((gH _).trans (decide_eq_true h1)) ?_
  refine ar (j:=0) (by kernel_rfl) ((Ea _ _ _).trans ?_)
  refine ae rfl (aa (C3 hG w x hw hs.n hs.r hk km) ?_)
  refine rZ rfl (ae rfl (aa hk ?_))
  refine aa (prev (iS v.2.1 x)) ?_
  by_cases h2:(iS v.2.1 (iS v.2.1 x)).1=x.1
  ·rw [if_pos h2]
   refine aX ((gH _).trans (decide_eq_true h2)) ?_
   refine ar (j:=0) (by kernel_rfl) ((Ea _ _ _).trans ?_)
   exact ag rfl rfl
  ·rw [if_neg h2]
   exact aX ((gH _).trans (decide_eq_false h2)) rfl
 ·rw [if_neg h1]
  exact aX ((gH _).trans (decide_eq_false h1)) rfl
theorem G2{l:List af}{x:ID}(hs:c7 l)(h:(bf l x).isSome=true)(hl:l.length≤50000000) :
  je l ((bY l x:Nat):Int) (IntKind.wrap .i64 (((bY l x:Nat):Int)+1))=true∧c9 l ((bY l x:Nat):Int) (IntKind.wrap .i64 (((bY l x:Nat):Int)+1))=cO l x:=by
 obtain ⟨e,he⟩:=Option.isSome_iff_exists.1 h
 have aG:=(List.getElem?_eq_some_iff.1 (lG hs he)).1
 have hw:IntKind.wrap .i64 (((bY l x:Nat):Int)+1)=((bY l x+1:Nat):Int):=aI aG (by omega)
 constructor
 ·rw [hw]
  unfold je
  rw [decide_eq_true (show (0:Int)≤((bY l x:Nat):Int) by omega),decide_eq_true (show ((bY l x:Nat):Int)<((bY l x+1:Nat):Int) by omega),decide_eq_true (show ((bY l x+1:Nat):Int)≤((l.length:Nat):Int) by omega),fits (by omega)];rfl
 ·rw [hw,vN hs h]
  unfold c9;simp only [Int.toNat_natCast]
theorem Pz{l:List ah}{x:ID}(hs:bW l)(h:(aR l x).isSome=true)(hl:l.length≤50000000) :
  je l ((bC l x:Nat):Int) (IntKind.wrap .i64 (((bC l x:Nat):Int)+1))=true∧c9 l ((bC l x:Nat):Int) (IntKind.wrap .i64 (((bC l x:Nat):Int)+1))=dG l x:=by
 obtain ⟨e,he⟩:=Option.isSome_iff_exists.1 h
 have aG:=(List.getElem?_eq_some_iff.1 (cZ hs he)).1
 have hw:IntKind.wrap .i64 (((bC l x:Nat):Int)+1)=((bC l x+1:Nat):Int):=aI aG (by omega)
 constructor
 ·rw [hw]
  unfold je
  rw [decide_eq_true (show (0:Int)≤((bC l x:Nat):Int) by omega),decide_eq_true (show ((bC l x:Nat):Int)<((bC l x+1:Nat):Int) by omega),decide_eq_true (show ((bC l x+1:Nat):Int)≤((l.length:Nat):Int) by omega),fits (by omega)];rfl
 ·rw [hw,vK hs h]
  unfold c9;simp only [Int.toNat_natCast]
theorem Sv.re{l:List ah}(h:Sv l)(x:ID){r:List ab}(hr:r.length≤50000000):Sv (l.map (qW x r)):=by
 refine ⟨by simp;exact h.n,fun w hw => ?_⟩
 obtain ⟨u,hu,rfl⟩:=List.mem_map.1 hw
 unfold qW
 split
 ·exact hr
 ·exact h.r u hu
theorem AX{row:List ab}(d:ab):(gG row d).length≤row.length:=by
 unfold gG;rw [fM];exact List.length_filter_le _ _
theorem Kj{w:aC}{x:ab}(hw:Rw w.1){k:Nat}{v:ah}(hk:w.1[k]? = some v)(hx:x∈v.2.1)(e:List af):w.1.set k (v.1,(gG v.2.1 x,v.2.2))=(aB (w.1,e) x).1:=by
 rw [jF (d:=(w.1,e)) hw (List.mem_of_getElem? hk) hx]
 exact IY hw.s hk _
theorem aef(hG:HG G)(s:StateT)(o:bw)(h:gI s)(hs:Sv s.1.1) :
  ∃(e:Int) (w:aC),FX G 93 zL ((o,()),(aF s,()))=some ((e,()),(w,()))∧fw e w=Ep s o:=by
 have bh:=h.d.ne
 unfold Ep
 cases hf:(bf s.1.2 (aS o)).isSome with
 | false =>
  refine ⟨13,aF s,?_,?_⟩
  ·refine au (fn:=Tryz.f93) (hG _ _ rfl) (by kernel_rfl) (by kernel_rfl) ((Xm _ _ _).trans ?_)
   refine aa (ns hG (aF s) (aS o) h.d.se (by show s.1.2.length≤_;omega)) ?_
   exact aX ((c5 (l:=s.1.2) h.d.se).trans hf) rfl
  ·rw [if_pos (show (gH s.1 (aS o)).isSome=false from hf)];rfl
 | true =>
  rw [if_neg (show ¬(gH s.1 (aS o)).isSome=false by show ¬(bf s.1.2 (aS o)).isSome=false;rw [hf];simp)]
  obtain ⟨x,hx⟩:∃x:ab,x=(aS o,0):=⟨_,rfl⟩
  obtain ⟨y,hy⟩:∃y:ab,y=(aS o,1):=⟨_,rfl⟩
  have hxd:x∈aw s.1.1:=by rw [hx];exact h.d.mH hf (.inl rfl)
  have Y7:y∈aw s.1.1:=by rw [hy];exact h.d.mH hf (.inr rfl)
  have g1:=jH h.g h.n (x,c4 s.1 x)
  have hn:=h.n
  obtain ⟨p1,q1⟩:=eT h.d.rw hxd
  have aeh:y∈aw (aB s.1 x).1:=by
   rcases List.mem_cons.1 (p1.mem_iff.1 Y7) with k | k
   ·rw [hx,hy] at k;cases k
   ·exact k
  have Mz:=jG (jG h.d.gv x) y
  refine ⟨0,((aB (aB s.1 x) y).1,(cO s.1.2 (aS o),(bK (bK s.2 (x,c4 s.1 x)) (y,c4 s.1 y),()))),?_,?_⟩
  ·refine au (fn:=Tryz.f93) (hG _ _ rfl) (by kernel_rfl) (by kernel_rfl) ((Xm _ _ _).trans ?_)
   refine aa (ns hG (aF s) (aS o) h.d.se (by show s.1.2.length≤_;omega)) ?_
   refine aX ((c5 (l:=s.1.2) h.d.se).trans hf) (ag rfl ?_)
   have aei:FX G 111 zM ((aS o,()),())=some ((x,y,()),()):=by
    rw [hx,hy];exact au (fn:=Tryz.f111) (hG _ _ rfl) (by kernel_rfl) (by kernel_rfl) (SY _ _ _)
   refine aa aei ?_
   refine ar (j:=0) (by kernel_rfl) ((IC _ _ _).trans ?_)
   refine ae rfl (ae rfl (aa (a:=x) rfl ?_))
   refine aa (Tt hG (aF s) x h.d.rw hs hxd s.1.2) ?_
   refine aa (C2 hG (aF s) x (c4 s.1 x) h.g (by show s.2.length≤_;omega)) ?_
   refine ar (j:=0) (by kernel_rfl) ((IC _ _ _).trans ?_)
   refine ae rfl (ae rfl (aa (a:=y) rfl ?_))
   refine aa (Tt hG (s.1.1,(s.1.2,(bK s.2 (x,c4 s.1 x),()))) y h.d.rw hs Y7 s.1.2) ?_
   refine aa (C2 hG (s.1.1,(s.1.2,(bK s.2 (x,c4 s.1 x),()))) y (c4 s.1 y) g1.1 (by have:=g1.2;show (bK s.2 (x,c4 s.1 x)).length≤_;omega)) ?_
   refine ar (j:=0) (by kernel_rfl) ((IC _ _ _).trans ?_)
   refine ag rfl ?_
   generalize bK (bK s.2 (x,c4 s.1 x)) (y,c4 s.1 y)=gg
   obtain ⟨k,v,hk,km,hv⟩:=qo hxd
   refine ar (j:=1) (by kernel_rfl) ((IE _ _ _).trans ?_)
   refine ae rfl (ae rfl (aa (a:=x) rfl ?_))
   refine aa (C3 hG (s.1.1,(s.1.2,(gg,()))) x h.d.rw hs.n hs.r hk km) ?_
   refine rZ rfl (ae rfl (aa hk ?_))
   refine aa (Tp hG v.2.1 x (h.d.rw.ring hv) (hs.r v hv)) ?_
   refine aa hk ?_
   have e1:s.1.1.set k (v.1,(gG v.2.1 x,v.2.2))=(aB s.1 x).1:=Kj (w:=(s.1.1,(s.1.2,(gg,())))) h.d.rw hk km s.1.2
   have EK:Sv (aB s.1 x).1:=by
    rw [jF h.d.rw hv km]
    exact hs.re _ (Nat.le_trans (AX x) (hs.r v hv))
   obtain ⟨k2,v2,nH,Y3,wo⟩:=qo aeh
   have e2:(aB s.1 x).1.set k2 (v2.1,(gG v2.2.1 y,v2.2.2))=(aB (aB s.1 x) y).1:=Kj (w:=((aB s.1 x).1,(s.1.2,(gg,())))) q1 nH Y3 (aB s.1 x).2
   have rest:∀a:List ah,a=(aB s.1 x).1→LX G 93 zL Tryz.f93 vB (aP Tryz.prog 93 1) ((((bY s.1.2 (aS o):Nat):Int),((2:Int),((1:Int),()))),(((a,(s.1.2,(gg,()))),()),([x,y],())))=some (((0:Int),()),(((aB (aB s.1 x) y).1,(cO s.1.2 (aS o),(gg,()))),())):=by
    intro a ha
    subst ha
    refine ar (j:=1) (by kernel_rfl) ((IE _ _ _).trans ?_)
    refine ae rfl (ae rfl (aa (a:=y) rfl ?_))
    refine aa (C3 hG ((aB s.1 x).1,(s.1.2,(gg,()))) y q1 EK.n EK.r nH Y3) ?_
    refine rZ rfl (ae rfl (aa nH ?_))
    refine aa (Tp hG v2.2.1 y (q1.ring wo) (EK.r v2 wo)) ?_
    refine aa nH ?_
    have last:∀b:List ah,b=(aB (aB s.1 x) y).1→LX G 93 zL Tryz.f93 vB (aP Tryz.prog 93 1) ((((bY s.1.2 (aS o):Nat):Int),((2:Int),((2:Int),()))),(((b,(s.1.2,(gg,()))),()),([x,y],())))=some (((0:Int),()),(((aB (aB s.1 x) y).1,(cO s.1.2 (aS o),(gg,()))),())):=by
     intro b hb
     subst hb
     refine ar (j:=1) (by kernel_rfl) ((IE _ _ _).trans ?_)
     obtain ⟨d1,d2⟩:=G2 h.d.se hf (by omega)
     refine ag rfl (ae d1 ?_)
     exact congrArg (fun l:List af=>some (((0:Int),()),(((aB (aB s.1 x) y).1,(l,(gg,()))),()))) d2
    exact last _ e2
   exact rest _ e1
  ·rw [←hx,←hy]
   unfold bu
   rw [uE Mz]
   rfl
end Go.Vs
namespace Go.Vs
open Go.Proofs
variable {G:(f:FuncId)→(g:aJ)→Option (g.A→Option g.B)}
theorem IZ{n:Int}(h0:0≤n)(h3:n≤3):eC .xor .i64 1 (eC .and .i64 n 1)=IntKind.wrap .i64 (1 - Int.tmod n 2)∧kz .i64 n 1=IntKind.wrap .i64 (Int.tdiv n 2):=by
 have:n=0∨n=1∨n=2∨n=3:=by omega
 rcases this with rfl | rfl | rfl | rfl<;>exact ⟨by decide,by decide⟩
theorem G3{l:List ah}{x:ab}(hw:Rw l){k:Nat}{v:ah}(hk:l[k]? = some v)(hx:x∈v.2.1)(y:ab)(e:List af):l.set k (v.1,(jg v.2.1 x y,v.2.2))=(aD (l,e) x y).1:=by
 rw [AQ (d:=(l,e)) hw y (List.mem_of_getElem? hk) hx]
 exact IY hw.s hk _
theorem aej(hG:HG G)(s:StateT)(o:bw)(h:gI s)(hs:Sv s.1.1)(hm:cp o=0)(UY:o.1=5) :
    ∃(e:Int) (w:aC),FX G 94 xl ((o,()),(aF s,()))=some ((e,()),(w,()))∧fw e w=lE s o:=by
  have bh:=h.d.ne;have QN:=h.d.nv
  obtain ⟨m1,m2,m3,m4⟩:=CX hm UY
  obtain ⟨s1,s2⟩:=GY m3 m4
  obtain ⟨c1,c2⟩:=IZ m3 m4
  have key:∀(e:Int) (w:aC),FX G 94 xl ((o,()),(aF s,()))=some ((e,()),(w,()))→fw e w=lE s o→∃(e:Int) (w:aC),FX G 94 xl ((o,()),(aF s,()))=some ((e,()),(w,()))∧fw e w=lE s o:=fun e w a b=>⟨e,w,a,b⟩
  have start:∀(e:Int) (w:aC),bZ 94 xl Tryz.f94 (FX G) (LX G 94 xl Tryz.f94) ((o,()),(aF s,()))=some ((e,()),(w,()))→FX G 94 xl ((o,()),(aF s,()))=some ((e,()),(w,())):=fun e w a =>
    au (fn:=Tryz.f94) (hG _ _ rfl) (by kernel_rfl) (by kernel_rfl) a
  unfold lE
  cases hf:(bf s.1.2 (aS o)).isSome with
  | false =>
    refine ⟨13,aF s,start _ _ ((Rj _ _ _).trans ?_),?_⟩
    · refine aa (ns hG (aF s) (aS o) h.d.se (by show s.1.2.length≤_;omega)) ?_
      refine aa (oT hG (aF s) (eu o) h.d.sv (by show s.1.1.length≤_;omega)) ?_
      refine aa (ns hG (aF s) (aV o) h.d.se (by show s.1.2.length≤_;omega)) ?_
      exact aX ((c5 (l:=s.1.2) h.d.se).trans hf) rfl
    · rw [if_pos (show (gH s.1 (aS o)).isSome=false from hf)];rfl
  | true =>
  rw [if_neg (show ¬(gH s.1 (aS o)).isSome=false by show ¬(bf s.1.2 (aS o)).isSome=false;rw [hf];simp)]
  cases Q3:(aR s.1.1 (eu o)).isSome with
  | true =>
    refine ⟨12,aF s,start _ _ ((Rj _ _ _).trans ?_),?_⟩
    · refine aa (ns hG (aF s) (aS o) h.d.se (by show s.1.2.length≤_;omega)) ?_
      refine aa (oT hG (aF s) (eu o) h.d.sv (by show s.1.1.length≤_;omega)) ?_
      refine aa (ns hG (aF s) (aV o) h.d.se (by show s.1.2.length≤_;omega)) ?_
      refine aX ((c5 (l:=s.1.2) h.d.se).trans hf) (ag rfl ?_)
      exact ae ((fg (l:=s.1.1) h.d.sv).trans Q3) rfl
    · rw [if_pos (show (bj s.1 (eu o)).isSome=true from Q3)];rfl
  | false =>
  rw [if_neg (show ¬(bj s.1 (eu o)).isSome=true by show ¬(aR s.1.1 (eu o)).isSome=true;rw [Q3];simp)]
  cases Ro:(bf s.1.2 (aV o)).isSome with
  | true =>
    refine ⟨12,aF s,start _ _ ((Rj _ _ _).trans ?_),?_⟩
    · refine aa (ns hG (aF s) (aS o) h.d.se (by show s.1.2.length≤_;omega)) ?_
      refine aa (oT hG (aF s) (eu o) h.d.sv (by show s.1.1.length≤_;omega)) ?_
      refine aa (ns hG (aF s) (aV o) h.d.se (by show s.1.2.length≤_;omega)) ?_
      refine aX ((c5 (l:=s.1.2) h.d.se).trans hf) (ag rfl ?_)
      refine ag ((fg (l:=s.1.1) h.d.sv).trans Q3) ?_
      exact ae ((c5 (l:=s.1.2) h.d.se).trans Ro) rfl
    · rw [if_pos (show (gH s.1 (aV o)).isSome=true from Ro)];rfl
  | false =>
  rw [if_neg (show ¬(gH s.1 (aV o)).isSome=true by show ¬(bf s.1.2 (aV o)).isSome=true;rw [Ro];simp)]
  have aek:aR s.1.1 (eu o)=none:=by simpa using Q3
  have ael:bf s.1.2 (aV o)=none:=by simpa using Ro
  obtain ⟨m,Mu⟩:∃m:ab,m=HL o:=⟨_,rfl⟩
  obtain ⟨kk,QS⟩:∃m:ab,m=EL o:=⟨_,rfl⟩
  have hmd:m∈aw s.1.1:=by rw [Mu];exact h.d.mH hf s1
  have HJ:aq kk∉aw s.1.1:=by rw [QS];exact h.d.yd ael _
  obtain ⟨p1,q1⟩:=oz h.d.rw hmd HJ
  have nH:kk.2=0∨kk.2=1:=by rw [QS];exact s2
  obtain ⟨k,v,hk,km,hv⟩:=qo hmd
  have e1:s.1.1.set k (v.1,(jg v.2.1 m (aq kk),v.2.2))=(aD s.1 m (aq kk)).1:=G3 h.d.rw hk km _ s.1.2
  have hlen:(aD s.1 m (aq kk)).1.length=s.1.1.length:=by unfold aD;exact fP _ _ _
  have RN:aR (aD s.1 m (aq kk)).1 (eu o)=none:=by
    unfold aD Vs.b6
    rw [nr (qn _ _),aek];rfl
  have eM:((aS o,eC .xor .i64 1 (eC .and .i64 (oN o) 1)):ab)=m:=by rw [Mu,c1];rfl
  have eK:((aV o,kz .i64 (oN o) 1):ab)=kk:=by rw [QS,c2];rfl
  have go:∀(e:Int) (w:aC),(∀a:List ah,a=(aD s.1 m (aq kk)).1→((FX G 90 FV (((eu o,(cH [m,kk],(e0,(0:Int)))),()),((a,(s.1.2,(s.2,()))),()))).bind fun (kC:((Int×Unit)×(aC×Unit))) =>
       cond (kC.1.1 != (0:Int))
        (some (kC.1,((kC.2.1.1,(kC.2.1.2.1,kC.2.1.2.2)),())))
        ((FX G 110 wP ((aV o,()),((kC.2.1.1,(kC.2.1.2.1,kC.2.1.2.2)),()))).bind fun (lP:((Int×Unit)×(aC×Unit))) =>
        some (lP.1,((lP.2.1.1,(lP.2.1.2.1,lP.2.1.2.2)),()))))=some ((e,()),(w,())))→FX G 94 xl ((o,()),(aF s,()))=some ((e,()),(w,())):=fun e w rest=>by
    refine start _ _ ((Rj _ _ _).trans ?_)
    refine aa (ns hG (aF s) (aS o) h.d.se (by show s.1.2.length≤_;omega)) ?_
    refine aa (oT hG (aF s) (eu o) h.d.sv (by show s.1.1.length≤_;omega)) ?_
    refine aa (ns hG (aF s) (aV o) h.d.se (by show s.1.2.length≤_;omega)) ?_
    refine aX ((c5 (l:=s.1.2) h.d.se).trans hf) (ag rfl ?_)
    refine ag ((fg (l:=s.1.1) h.d.sv).trans Q3) ?_
    refine ag ((c5 (l:=s.1.2) h.d.se).trans Ro) ?_
    refine ag rfl ?_
    have body:∀mm k2:ab,mm=m→k2=kk→((FX G 118 lx ((mm,()),(aF s,()))).bind fun (y4:(((Option ((Fin 1)×Nat))×Unit)×(aC×Unit))) =>
      po y4.1.1
       (none) fun (p5:((Fin 1)×Nat)) =>
      cond (p5.1.val==0)
       (((y4.2.1.1)[p5.2]?).bind fun (y6:ah) =>
       (FX G 122 nc ((k2,()),())).bind fun (y7:((ab×Unit)×Unit)) =>
       (FX G 121 rS ((y6.2.1,(mm,((y7.1.1.1,y7.1.1.2),()))),())).bind fun (y8:(((List ab)×Unit)×Unit)) =>
       ((y4.2.1.1)[p5.2]?).bind fun (y9:ah) =>
       (FX G 123 p6 (([mm,k2],()),())).bind fun (ou:(((List ab)×Unit)×Unit)) =>
       (FX G 90 FV (((eu o,(ou.1.1,((⟨#[]⟩:ByteArray),(0:Int)))),()),(((List.set y4.2.1.1 p5.2 (y9.1,(y8.1.1,y9.2.2))),(y4.2.1.2.1,y4.2.1.2.2)),()))).bind fun (kC:((Int×Unit)×(aC×Unit))) =>
       cond (kC.1.1 != (0:Int))
        (some (kC.1,((kC.2.1.1,(kC.2.1.2.1,kC.2.1.2.2)),())))
        ((FX G 110 wP ((aV o,()),((kC.2.1.1,(kC.2.1.2.1,kC.2.1.2.2)),()))).bind fun (lP:((Int×Unit)×(aC×Unit))) =>
        some (lP.1,((lP.2.1.1,(lP.2.1.2.1,lP.2.1.2.2)),()))))
       (none))=some ((e,()),(w,())):=by
      intro mm k2 aem aen
      subst aem aen
      refine aa (C3 hG (aF s) mm h.d.rw hs.n hs.r hk km) ?_
      refine rZ rfl (ae rfl (aa hk ?_))
      refine aa (G1 (hG _ _ rfl) k2 nH) ?_
      refine aa (Tq hG v.2.1 mm (aq k2) (hs.r v hv)) ?_
      refine aa hk ?_
      refine aa (CS hG [mm,k2] (by simp)) ?_
      exact rest _ e1
    exact body _ _ eM eK
  have aeo:24≤s.1.1.length→oU ((aD s.1 m (aq kk)).1,(s.1.2,(s.2,()))) (eu o,(cH [m,kk],(e0,0)))=(3,((aD s.1 m (aq kk)).1,(s.1.2,(s.2,())))):=fun hb=>by
    unfold oU
    rw [if_neg (by rw [show aR ((aD s.1 m (aq kk)).1,(s.1.2,(s.2,()))).1 ((eu o,(cH [m,kk],(e0,0))):ah).1=none from RN];simp)]
    rw [if_pos (by show 24≤(aD s.1 m (aq kk)).1.length;omega)]
  have UZ:¬24≤s.1.1.length→oU ((aD s.1 m (aq kk)).1,(s.1.2,(s.2,()))) (eu o,(cH [m,kk],(e0,0)))=(0,(dV (eu o,(cH [m,kk],(e0,0))) (aD s.1 m (aq kk)).1,(s.1.2,(s.2,())))):=fun hb=>by
    unfold oU
    rw [if_neg (by rw [show aR ((aD s.1 m (aq kk)).1,(s.1.2,(s.2,()))).1 ((eu o,(cH [m,kk],(e0,0))):ah).1=none from RN];simp)]
    rw [if_neg (by show ¬24≤(aD s.1 m (aq kk)).1.length;omega)]
  by_cases hb:24≤s.1.1.length
  · refine ⟨3,((aD s.1 m (aq kk)).1,(s.1.2,(s.2,()))),go _ _ (fun a ha => ?_),?_⟩
    · subst ha
      refine aa (RH hG ((aD s.1 m (aq kk)).1,(s.1.2,(s.2,()))) (eu o,(cH [m,kk],(e0,0))) q1.s (by show (aD s.1 m (aq kk)).1.length≤_;omega)) ?_
      rw [aeo hb]
      exact ae rfl rfl
    · rw [if_pos hb];rfl
  rw [if_neg hb]
  have hE:r8 (dV (eu o,(cH [m,kk],(e0,0))) (aD s.1 m (aq kk)).1,(s.1.2,(s.2,()))) (aV o)=if 40≤s.1.2.length then (3,(dV (eu o,(cH [m,kk],(e0,0))) (aD s.1 m (aq kk)).1,(s.1.2,(s.2,())))) else (0,(dV (eu o,(cH [m,kk],(e0,0))) (aD s.1 m (aq kk)).1,(dp (aV o,(e0,0)) s.1.2,(s.2,())))):=by
    unfold r8
    rw [if_neg (by show ¬(bf s.1.2 (aV o)).isSome=true;rw [Ro];simp)]
  have fin:FX G 94 xl ((o,()),(aF s,()))=some (((r8 (dV (eu o,(cH [m,kk],(e0,0))) (aD s.1 m (aq kk)).1,(s.1.2,(s.2,()))) (aV o)).1,()),((r8 (dV (eu o,(cH [m,kk],(e0,0))) (aD s.1 m (aq kk)).1,(s.1.2,(s.2,()))) (aV o)).2,())):=by
    refine go _ _ (fun a ha => ?_)
    subst ha
    refine aa (RH hG ((aD s.1 m (aq kk)).1,(s.1.2,(s.2,()))) (eu o,(cH [m,kk],(e0,0))) q1.s (by show (aD s.1 m (aq kk)).1.length≤_;omega)) ?_
    rw [UZ hb]
    refine ag rfl ?_
    exact aa (Tj hG (dV (eu o,(cH [m,kk],(e0,0))) (aD s.1 m (aq kk)).1,(s.1.2,(s.2,()))) (aV o) h.d.se (by show s.1.2.length≤_;omega)) rfl
  rw [hE] at fin
  by_cases Yh:40≤s.1.2.length
  · rw [if_pos Yh] at fin ⊢
    exact ⟨_,_,fin,rfl⟩
  · rw [if_neg Yh] at fin ⊢
    refine ⟨_,_,fin,?_⟩
    rw [Mu,QS];rfl
theorem aep(hG:HG G)(s:StateT)(o:bw)(h:gI s)(hs:Sv s.1.1) :
    ∃(e:Int) (w:aC),FX G 95 p4 ((o,()),(aF s,()))=some ((e,()),(w,()))∧fw e w=kH s o:=by
  have bh:=h.d.ne;have QN:=h.d.nv;have hgn:=h.n
  have start:∀(e:Int) (w:aC),bZ 95 p4 Tryz.f95 (FX G) (LX G 95 p4 Tryz.f95) ((o,()),(aF s,()))=some ((e,()),(w,()))→FX G 95 p4 ((o,()),(aF s,()))=some ((e,()),(w,())):=fun e w a =>
    au (fn:=Tryz.f95) (hG _ _ rfl) (by kernel_rfl) (by kernel_rfl) a
  unfold kH
  cases hf:aR s.1.1 (aS o) with
  | none =>
    refine ⟨13,aF s,start _ _ ((Xn _ _ _).trans ?_),?_⟩
    · refine aa (oT hG (aF s) (aS o) h.d.sv (by show s.1.1.length≤_;omega)) ?_
      exact aX ((fg (l:=s.1.1) h.d.sv).trans (by rw [hf])) rfl
    · rw [show bj s.1 (aS o)=none from hf];rfl
  | some v =>
  have hfs:(aR s.1.1 (aS o)).isSome=true:=by rw [hf];rfl
  have hv:=fW hf
  have Y5:=j9 hf
  have mw:=cZ h.d.sv hf
  have aG:=(List.getElem?_eq_some_iff.1 mw).1
  have hgr:=h.d.rw
  have go:∀(e:Int) (w:aC),(cond ((((List.length v.2.1):Nat):Int) != (2:Int)) (some (((14:Int),()),(aF s,()))) _=some ((e,()),(w,())))→FX G 95 p4 ((o,()),(aF s,()))=some ((e,()),(w,())):=fun e w rest=>by
    refine start _ _ ((Xn _ _ _).trans ?_)
    refine aa (oT hG (aF s) (aS o) h.d.sv (by show s.1.1.length≤_;omega)) ?_
    refine aX ((fg (l:=s.1.1) h.d.sv).trans hfs) (ag rfl ?_)
    refine ae (dx (eI _) (aT aG)) (aa mw ?_)
    exact rest
  rw [show bj s.1 (aS o)=some v from hf]
  by_cases sB:v.2.1.length=2
  case neg =>
    refine ⟨14,aF s,go _ _ (ae (by rw [bne_iff_ne];omega) rfl),?_⟩
    show fw 14 (aF s)=(match v.2.1 with | [r0,r1]=>jN s o r0 r1 | _=>(zS,(14,())))
    split
    · rename_i hr;rw [hr] at sB;exact absurd rfl sB
    · rfl
  obtain ⟨r0,r1,hr⟩:∃r0 r1,v.2.1=[r0,r1]:=by
    match hq:v.2.1,sB with
    | [a,b],_=>exact ⟨a,b,rfl⟩
  have CA:(((List.length v.2.1:Nat):Int) != (2:Int))=false:=by rw [sB];rfl
  have g0:aZ v.2.1 (0:Int)=some r0:=by rw [hr];rfl
  have g1:aZ v.2.1 (1:Int)=some r1:=by rw [hr];rfl
  show ∃(e:Int) (w:aC),FX G 95 p4 ((o,()),(aF s,()))=some ((e,()),(w,()))∧fw e w=(match v.2.1 with | [r0,r1]=>jN s o r0 r1 | _=>(zS,(14,())))
  rw [hr]
  show ∃(e:Int) (w:aC),FX G 95 p4 ((o,()),(aF s,()))=some ((e,()),(w,()))∧fw e w=jN s o r0 r1
  unfold jN
  by_cases V5:r0.1=r1.1
  · refine ⟨14,aF s,go _ _ (ag CA (aa g0 (aa g1 (ae ((jc r0.1 r1.1).trans (decide_eq_true V5)) rfl)))),?_⟩
    rw [if_pos V5];rfl
  rw [if_neg V5]
  have b01:=(jc r0.1 r1.1).trans (decide_eq_false V5)
  have tail:∀a b:ab,v.2.1.Perm [a,b]→a.1≠b.1→((FX G 122 nc ((b,()),())).bind fun (y7:((ab×Unit)×Unit)) =>
        cond (je s.1.1 ((bC s.1.1 (aS o):Nat):Int) (IntKind.wrap .i64 (((bC s.1.1 (aS o):Nat):Int)+(1:Int))))
         ((FX G 118 lx (((y7.1.1.1,y7.1.1.2),()),(((c9 s.1.1 ((bC s.1.1 (aS o):Nat):Int) (IntKind.wrap .i64 (((bC s.1.1 (aS o):Nat):Int)+(1:Int)))),(s.1.2,(s.2,()))),()))).bind fun (y8:(((Option ((Fin 1)×Nat))×Unit)×(aC×Unit))) =>
         po y8.1.1
          (none) fun (p9:((Fin 1)×Nat)) =>
         cond (p9.1.val==0)
          (((y8.2.1.1)[p9.2]?).bind fun (ou:ah) =>
          (FX G 121 rS ((ou.2.1,((y7.1.1.1,y7.1.1.2),(a,()))),())).bind fun (kC:(((List ab)×Unit)×Unit)) =>
          ((y8.2.1.1)[p9.2]?).bind fun (lP:ah) =>
          (FX G 115 ma ((b.1,()),(((List.set y8.2.1.1 p9.2 (lP.1,(kC.1.1,lP.2.2))),(y8.2.1.2.1,y8.2.1.2.2)),()))).bind fun (kD:((Int×(Bool×Unit))×(aC×Unit))) =>
          cond (je kD.2.1.2.1 kD.1.1 (IntKind.wrap .i64 (kD.1.1+(1:Int))))
           (LX G 95 p4 Tryz.f95 mC (aP Tryz.prog 95 0) (((0:Int),()),(((kD.2.1.1,((c9 kD.2.1.2.1 kD.1.1 (IntKind.wrap .i64 (kD.1.1+(1:Int)))),kD.2.1.2.2)),((a,()),((b,()),(((y7.1.1.1,y7.1.1.2),()),())))),())))
           (none))
          (none))
         (none))=some (((0:Int),()),(((IS s o a b).1,((IS s o a b).2,(GL s.2 a b,()))),())):=by
    intro a b hp Br
    obtain ⟨p,q,h1,_,h2,_⟩:=s5 h.d.sv hv
    have pd:(aw s.1.1).Perm (a::b::aw (p++q)):=by
      have:=(jC p q v).trans (List.Perm.append_right _ hp)
      rw [←h1] at this;exact this
    have C4:dG s.1.1 (aS o)=p++q:=by rw [←Y5];exact h2
    have LY:bu s.1 (aS o) zI=(p++q,s.1.2):=by unfold bu;rw [C4,yc h.d.ge]
    have EJ:=pd.nodup_iff.1 hgr.n
    have hbm:b∈ends s.1.2:=h.d.pd.mem_iff.1 (pd.mem_iff.2 (by simp))
    obtain ⟨e,he,WL,yS⟩:=eY.1 hbm
    have BJ:(bf s.1.2 b.1).isSome=true:=by
      unfold bf;rw [List.find?_isSome];exact ⟨e,he,by simpa using WL⟩
    obtain ⟨_,ho⟩:=ri yS
    have UW:aq b∈aw (p++q):=by
      have h3:aq b∈aw s.1.1:=h.d.mH (s:=(aq b).2) BJ (by rcases ho with ⟨_,k⟩ | ⟨_,k⟩<;>omega)
      rcases List.mem_cons.1 (pd.mem_iff.1 h3) with k | k
      · exact absurd (congrArg Prod.fst k) (fun k=>Br k.symm)
      rcases List.mem_cons.1 k with k | k
      · have:=congrArg Prod.snd k;omega
      · exact k
    have RO:Rw (p++q):=⟨by rw [←h2];exact ox h.d.sv,(List.nodup_cons.1 (List.nodup_cons.1 EJ).2).2⟩
    have br:∀u∈p++q,u∈s.1.1:=fun u hu=>by
      rw [h1]
      rcases List.mem_append.1 hu with k | k
      · exact List.mem_append_left _ k
      · exact List.mem_append_right _ (List.mem_cons_of_mem _ k)
    have EK:Sv (p++q):=⟨by
      have:=hs.n;rw [h1] at this;simp at this ⊢;omega,fun u hu=>hs.r u (br u hu)⟩
    obtain ⟨dk1,dk2⟩:=Pz h.d.sv hfs (by omega)
    rw [C4] at dk2
    obtain ⟨k,u,hk,hxu,hu⟩:=qo UW
    have e1:(p++q).set k (u.1,(jg u.2.1 (aq b) a,u.2.2))=(aD (p++q,s.1.2) (aq b) a).1:=G3 RO hk hxu _ s.1.2
    have Mz:∀w∈(aD (p++q,s.1.2) (aq b) a).1,GV w:=s6 (d:=(p++q,s.1.2)) (fun w hw=>h.d.gv w (br w hw)) _ _
    have eD:IS s o a b=((aD (p++q,s.1.2) (aq b) a).1,cO s.1.2 b.1):=by
      unfold IS
      rw [LY]
      unfold bu
      rw [uE Mz];rfl
    have ga:=jH h.g h.n ((b.1,0),o6 a b 0)
    rw [eD]
    refine aa (G1 (hG _ _ rfl) b yS) ?_
    refine ae dk1 ?_
    have r1:∀l1:List ah,l1=p++q→((FX G 118 lx ((aq b,()),((l1,(s.1.2,(s.2,()))),()))).bind fun (y8:(((Option ((Fin 1)×Nat))×Unit)×(aC×Unit))) =>
         po y8.1.1
          (none) fun (p9:((Fin 1)×Nat)) =>
         cond (p9.1.val==0)
          (((y8.2.1.1)[p9.2]?).bind fun (ou:ah) =>
          (FX G 121 rS ((ou.2.1,(aq b,(a,()))),())).bind fun (kC:(((List ab)×Unit)×Unit)) =>
          ((y8.2.1.1)[p9.2]?).bind fun (lP:ah) =>
          (FX G 115 ma ((b.1,()),(((List.set y8.2.1.1 p9.2 (lP.1,(kC.1.1,lP.2.2))),(y8.2.1.2.1,y8.2.1.2.2)),()))).bind fun (kD:((Int×(Bool×Unit))×(aC×Unit))) =>
          cond (je kD.2.1.2.1 kD.1.1 (IntKind.wrap .i64 (kD.1.1+(1:Int))))
           (LX G 95 p4 Tryz.f95 mC (aP Tryz.prog 95 0) (((0:Int),()),(((kD.2.1.1,((c9 kD.2.1.2.1 kD.1.1 (IntKind.wrap .i64 (kD.1.1+(1:Int)))),kD.2.1.2.2)),((a,()),((b,()),((aq b,()),())))),())))
           (none))
          (none))=some (((0:Int),()),(((aD (p++q,s.1.2) (aq b) a).1,(cO s.1.2 b.1,(GL s.2 a b,()))),())):=by
      intro l1 hl1
      subst hl1
      refine aa (C3 hG (p++q,(s.1.2,(s.2,()))) (aq b) RO EK.n EK.r hk hxu) ?_
      refine rZ rfl (ae rfl (aa hk ?_))
      refine aa (Tq hG u.2.1 (aq b) a (EK.r u hu)) ?_
      refine aa hk ?_
      have r2:∀l2:List ah,l2=(aD (p++q,s.1.2) (aq b) a).1→((FX G 115 ma ((b.1,()),((l2,(s.1.2,(s.2,()))),()))).bind fun (kD:((Int×(Bool×Unit))×(aC×Unit))) =>
          cond (je kD.2.1.2.1 kD.1.1 (IntKind.wrap .i64 (kD.1.1+(1:Int))))
           (LX G 95 p4 Tryz.f95 mC (aP Tryz.prog 95 0) (((0:Int),()),(((kD.2.1.1,((c9 kD.2.1.2.1 kD.1.1 (IntKind.wrap .i64 (kD.1.1+(1:Int)))),kD.2.1.2.2)),((a,()),((b,()),((aq b,()),())))),())))
           (none))=some (((0:Int),()),(((aD (p++q,s.1.2) (aq b) a).1,(cO s.1.2 b.1,(GL s.2 a b,()))),())):=by
        intro l2 sB
        subst sB
        refine aa (ns hG ((aD (p++q,s.1.2) (aq b) a).1,(s.1.2,(s.2,()))) b.1 h.d.se (by show s.1.2.length≤_;omega)) ?_
        obtain ⟨ek1,ek2⟩:=G2 h.d.se BJ (by omega)
        refine ae ek1 ?_
        have r3:∀l3:List af,l3=cO s.1.2 b.1→(LX G 95 p4 Tryz.f95 mC (aP Tryz.prog 95 0) (((0:Int),()),((((aD (p++q,s.1.2) (aq b) a).1,(l3,(s.2,()))),((a,()),((b,()),((aq b,()),())))),())))=some (((0:Int),()),(((aD (p++q,s.1.2) (aq b) a).1,(cO s.1.2 b.1,(GL s.2 a b,()))),())):=by
          intro l3 hl3
          subst hl3
          have eb:b=(b.1,b.2):=rfl
          have eo:aq b=(b.1,(aq b).2):=rfl
          rcases ho with ⟨BV,MT⟩ | ⟨Rl,ho0⟩
          · rw [BV] at eb;rw [MT] at eo
            have t0:o6 a b 0=zD:=by unfold o6;rw [if_neg (by rw [eo];simp)]
            have t1:o6 a b 1=a:=by unfold o6;rw [if_pos eo.symm]
            rw [t0,←eb] at ga
            have eG:GL s.2 a b=bK (bK s.2 (b,zD)) (aq b,a):=by unfold GL;rw [t0,t1,←eb,←eo]
            rw [eG]
            refine ar (j:=0) (by kernel_rfl) ((vE _ _ _).trans ?_)
            refine ae rfl (ae (by show (b.2==(0:Int))=true;simp [BV]) ?_)
            refine aa (C2 hG ((aD (p++q,s.1.2) (aq b) a).1,(cO s.1.2 b.1,(s.2,()))) b zD h.g (by show s.2.length≤_;omega)) ?_
            refine ar (j:=0) (by kernel_rfl) ((vE _ _ _).trans ?_)
            refine ae rfl (ag (by show (b.2==(1:Int))=false;simp [BV]) ?_)
            refine aa (C2 hG ((aD (p++q,s.1.2) (aq b) a).1,(cO s.1.2 b.1,(bK s.2 (b,zD),()))) (aq b) a ga.1 (by have:=ga.2;show (bK s.2 (b,zD)).length≤_;omega)) ?_
            refine ar (j:=0) (by kernel_rfl) ((vE _ _ _).trans ?_)
            exact ag rfl rfl
          · rw [Rl] at eb;rw [ho0] at eo
            have t0:o6 a b 0=a:=by unfold o6;rw [if_pos eo.symm]
            have t1:o6 a b 1=zD:=by unfold o6;rw [if_neg (by rw [eo];simp)]
            rw [t0,←eo] at ga
            have eG:GL s.2 a b=bK (bK s.2 (aq b,a)) (b,zD):=by unfold GL;rw [t0,t1,←eb,←eo]
            rw [eG]
            refine ar (j:=0) (by kernel_rfl) ((vE _ _ _).trans ?_)
            refine ae rfl (ag (by show (b.2==(0:Int))=false;simp [Rl]) ?_)
            refine aa (C2 hG ((aD (p++q,s.1.2) (aq b) a).1,(cO s.1.2 b.1,(s.2,()))) (aq b) a h.g (by show s.2.length≤_;omega)) ?_
            refine ar (j:=0) (by kernel_rfl) ((vE _ _ _).trans ?_)
            refine ae rfl (ae (by show (b.2==(1:Int))=true;simp [Rl]) ?_)
            refine aa (C2 hG ((aD (p++q,s.1.2) (aq b) a).1,(cO s.1.2 b.1,(bK s.2 (aq b,a),()))) b zD ga.1 (by have:=ga.2;show (bK s.2 (aq b,a)).length≤_;omega)) ?_
            refine ar (j:=0) (by kernel_rfl) ((vE _ _ _).trans ?_)
            exact ag rfl rfl
        exact r3 _ ek2
      exact r2 _ e1
    exact r1 _ dk2
  have bo:∀y:ab,((y.1.1==(aV o).1)&&(y.1.2==(aV o).2))=decide (y.1=aV o):=fun y=>jc y.1 (aV o)
  by_cases h0:r0.1=aV o
  · rw [if_pos h0]
    refine ⟨0,((IS s o r1 r0).1,((IS s o r1 r0).2,(GL s.2 r1 r0,()))),go _ _ (ag CA (aa g0 (aa g1 (ag b01 (aa g0 (aa g1 (ae ((bo r0).trans (decide_eq_true h0)) ?_))))))),rfl⟩
    refine aX ((bo r0).trans (decide_eq_true h0)) (ag rfl ?_)
    exact tail r1 r0 (by rw [hr];exact List.Perm.swap _ _ _) (fun k=>V5 k.symm)
  rw [if_neg h0]
  by_cases h1:r1.1=aV o
  · rw [if_pos h1]
    refine ⟨0,((IS s o r0 r1).1,((IS s o r0 r1).2,(GL s.2 r0 r1,()))),go _ _ (ag CA (aa g0 (aa g1 (ag b01 (aa g0 (aa g1 (ag ((bo r0).trans (decide_eq_false h0)) ?_))))))),rfl⟩
    refine aX ((bo r1).trans (decide_eq_true h1)) (ag rfl ?_)
    exact tail r0 r1 (by rw [hr]) V5
  rw [if_neg h1]
  refine ⟨14,aF s,go _ _ (ag CA (aa g0 (aa g1 (ag b01 (aa g0 (aa g1 (ag ((bo r0).trans (decide_eq_false h0)) ?_))))))),rfl⟩
  exact aX ((bo r1).trans (decide_eq_false h1)) (ae rfl rfl)
end Go.Vs
namespace Go.Vs
open Go.Proofs
theorem C5{row:List ab}(hn:row.Nodup){i j:Nat}{hi:i<row.length}{hj:j<row.length}(h:row[i]=row[j]):i=j:=by
 rcases Nat.lt_trichotomy i j with k | k | k
 ·exact absurd h (List.pairwise_iff_getElem.1 hn i j hi hj k)
 ·exact k
 ·exact absurd h.symm (List.pairwise_iff_getElem.1 hn j i hj hi k)
theorem C6{row:List ab}(hn:row.Nodup){i j:Nat}{x:ab}(hi:row[i]? = some x)(hj:row[j]? = some x):i=j:=by
 obtain ⟨h1,h2⟩:=List.getElem?_eq_some_iff.1 hi
 obtain ⟨h3,h4⟩:=List.getElem?_eq_some_iff.1 hj
 exact C5 hn (h2.trans h4.symm)
theorem G4(row:List ab):∃j,j≤row.length∧cH row=Bv row j:=by
 by_cases h0:row.length=0
 ·have:row=[]:=by simpa using h0
  subst this;exact ⟨0,by simp,rfl⟩
 ·exact ⟨eX row row 0 0,Nat.le_of_lt (ov row row 0 0 (by omega) (by omega)),rfl⟩
theorem RP{row:List ab}(hn:row.Nodup){k:Nat}{x:ab}(hk:row[k]? = some x):idx x row 0=(k:Int):=by
 have:=IV (d:=x) (row:=row) (k:=k) (i:=0) hk (fun j hj he=>by have:=C6 hn hk he;omega)
 omega
end Go.Vs
namespace Go.Vs
open Go.Proofs
variable {G:(f:FuncId)→(g:aJ)→Option (g.A→Option g.B)}
theorem L0(l:List ah)(x:ID):l.any (fun w=>decide (w.1=x))=(aR l x).isSome:=by
 rw [Bool.eq_iff_iff,List.any_eq_true];unfold aR;rw [List.find?_isSome]
theorem L3(l:List af)(x:ID):l.any (fun w=>decide (w.1=x))=(bf l x).isSome:=by
 rw [Bool.eq_iff_iff,List.any_eq_true];unfold bf;rw [List.find?_isSome]
theorem L4(s:StateT)(o:bw):fw (sY (aF s) o).1 (sY (aF s) o).2=vI s o:=by
 unfold sY vI GJ En
 rw [L0,L3]
 by_cases ho:mF o=true
 ·have hv:s.1.1.map (iB o)=s.1.1:=by
   conv=>rhs;rw [←List.map_id s.1.1]
   exact List.map_congr_left fun u hu=>by unfold iB;rw [if_neg (by rw [ho];simp)];rfl
  rw [if_pos ho,ho,hv]
  show fw (if (bf s.1.2 (aS o)).isSome=true then _ else _:Int×aC).1 (if (bf s.1.2 (aS o)).isSome=true then _ else _:Int×aC).2=_
  cases (bf s.1.2 (aS o)).isSome<;>rfl
 ·have my:mF o=false:=by simpa using ho
  have he:s.1.2.map (jz o)=s.1.2:=by
   conv=>rhs;rw [←List.map_id s.1.2]
   exact List.map_congr_left fun u hu=>by unfold jz;rw [if_neg (by rw [my];simp)];rfl
  rw [if_neg ho,my,he]
  show fw (if (aR s.1.1 (aS o)).isSome=true then _ else _:Int×aC).1 (if (aR s.1.1 (aS o)).isSome=true then _ else _:Int×aC).2=_
  cases (aR s.1.1 (aS o)).isSome<;>rfl
theorem PA(hG:HG G)(w:aC)(o:bw)(hk:7≤o.1)(hv:bW w.1)(he:c7 w.2.1)(Tk:w.1.length≤50000000)(hle:w.2.1.length≤50000000) :
  FX G 66 xg ((o,()),(w,()))=some (((sY w o).1,()),((sY w o).2,())):=by
 refine au (fn:=Tryz.f66) (hG _ _ rfl) (by kernel_rfl) (by kernel_rfl) ((D9 _ _ _).trans ?_)
 have kn:∀k:Int,k<7→(o.1==k)=false:=fun k nH=>w4 (by omega)
 refine ag (kn 1 (by omega)) (ag (kn 2 (by omega)) (ag (kn 3 (by omega)) (ag (kn 4 (by omega)) (ag (kn 5 (by omega)) (ag (kn 6 (by omega)) ?_)))))
 exact aa (aec hG w o hv he Tk hle) rfl
def opL(x:ID)(e:Bool)(t:ByteArray):bw:=(7,(x,(zI,(zI,(zC,(zC,(e,(t,0))))))))
def opA(x:ID)(e:Bool)(n:Int):bw:=(8,(x,(zI,(zI,(zC,(zC,(e,(e0,n))))))))
structure Lay(s t:StateT):Prop where
 v:bW t.1.1
 e:c7 t.1.2
 sm:Sm t.1
 g:t.2.length≤50000000
end Go.Vs
namespace Go.Vs
open Go.Proofs
variable {G:(f:FuncId)→(g:aJ)→Option (g.A→Option g.B)}
theorem G5(l:List af):(ends l).length=2 * l.length:=by
 induction l with
 | nil=>rfl
 | cons e r ih=>rw [jD];simp [ih];omega
theorem RQ{l:List ah}{v:ah}(h:v∈l):v.2.1.length≤(aw l).length:=by
 obtain ⟨a,b,rfl⟩:=List.append_of_mem h
 rw [nu,jB];simp;omega
theorem Wf.vT{d:ai}(h:Wf d):∀v∈d.1,v.2.1.length≤80:=fun v hv=>by
 have h1:=RQ hv
 have h2:=h.pd.length_eq
 have h3:=h.ne
 rw [G5] at h2;omega
theorem Wf.sm{d:ai}(h:Wf d):Sm d:=⟨by have:=h.nv;omega,by have:=h.ne;omega,fun v hv=>by have:=h.vT v hv;omega⟩
theorem Wf.small{d:ai}(h:Wf d):Sv d.1:=⟨by have:=h.nv;omega,fun v hv=>by have:=h.vT v hv;omega⟩
theorem L5(s:StateT)(o:bw):fw (oU (aF s) (aS o,([],(e0,0)))).1 (oU (aF s) (aS o,([],(e0,0)))).2=rY s o:=by
 by_cases hh:(aR s.1.1 (aS o)).isSome=true
 ·have a:oU (aF s) (aS o,([],(e0,0)))=(12,aF s):=if_pos hh
  have b:rY s o=(zS,(12,())):=if_pos hh
  rw [a,b];rfl
 by_cases h:24≤s.1.1.length
 ·have a:oU (aF s) (aS o,([],(e0,0)))=(3,aF s):=(if_neg hh).trans (if_pos h)
  have b:rY s o=(zS,(3,())):=(if_neg hh).trans (if_pos h)
  rw [a,b];rfl
 ·have a:oU (aF s) (aS o,([],(e0,0)))=(0,(dV (aS o,([],(e0,0))) (aF s).1,(aF s).2)):=(if_neg hh).trans (if_neg h)
  have b:rY s o=(((dV (aS o,([],(e0,0))) s.1.1,s.1.2),s.2),(0,())):=(if_neg hh).trans (if_neg h)
  rw [a,b];rfl
theorem L6{s:StateT}(h:gI s)(o:bw):fw (wZ (aF s) (aS o)).1 (wZ (aF s) (aS o)).2=wY s o:=by
 unfold wZ wY bj
 show fw (match aR s.1.1 (aS o) with | none=>(13,aF s) | some v=>if 0<v.2.1.length then (14,aF s) else (0,(dG s.1.1 (aS o),(s.1.2,(s.2,())))):Int×aC).1 (match aR s.1.1 (aS o) with | none=>(13,aF s) | some v=>if 0<v.2.1.length then (14,aF s) else (0,(dG s.1.1 (aS o),(s.1.2,(s.2,())))):Int×aC).2=_
 cases aR s.1.1 (aS o) with
 | none=>rfl
 | some v =>
  simp only
  by_cases hl:0<v.2.1.length
  ·rw [if_pos hl,if_pos hl];rfl
  ·rw [if_neg hl,if_neg hl]
   unfold bu
   rw [yc h.d.ge];rfl
def Kk(s:StateT)(o:bw):StateT×(Int×Unit) :=
 if o.1=1 then rY s o else if o.1=2 then wY s o else if o.1=3 then ql s o else if o.1=4 then Ep s o else if o.1=5 then lE s o else if o.1=6 then kH s o else vI s o
theorem C7(s:StateT)(o:bw):kl s o=if cp o≠0 then (zS,(cp o,())) else Kk s o:=rfl
theorem G6(hG:HG G)(s:StateT)(o:bw)(h:gI s)(hm:cp o=0)(h3:o.1=3→∃(e:Int) (w:aC),FX G 92 m8 ((o,()),(aF s,()))=some ((e,()),(w,()))∧fw e w=ql s o) :
  ∃(e:Int) (w:aC),FX G 66 xg ((o,()),(aF s,()))=some ((e,()),(w,()))∧fw e w=Kk s o:=by
 have hk:=AU hm
 have RR:=h.d.small
 have QN:=h.d.nv;have bh:=h.d.ne
 have start:∀(e:Int) (w:aC),bZ 66 xg Tryz.f66 (FX G) (LX G 66 xg Tryz.f66) ((o,()),(aF s,()))=some ((e,()),(w,()))→FX G 66 xg ((o,()),(aF s,()))=some ((e,()),(w,())):=fun e w a =>
  au (fn:=Tryz.f66) (hG _ _ rfl) (by kernel_rfl) (by kernel_rfl) a
 unfold Kk
 by_cases h1:o.1=1
 ·rw [if_pos h1]
  refine ⟨_,_,start _ _ ((D9 _ _ _).trans (ae (EM h1) (aa (RH hG (aF s) (aS o,([],(e0,0))) h.d.sv RR.n) rfl))),?_⟩
  exact L5 s o
 rw [if_neg h1]
 by_cases h2:o.1=2
 ·rw [if_pos h2]
  refine ⟨_,_,start _ _ ((D9 _ _ _).trans (ag (w4 h1) (ae (EM h2) (aa (YU hG (aF s) o h.d.sv RR.n) rfl)))),?_⟩
  exact L6 h o
 rw [if_neg h2]
 by_cases My:o.1=3
 ·rw [if_pos My]
  obtain ⟨e,w,a,b⟩:=h3 My
  exact ⟨e,w,start _ _ ((D9 _ _ _).trans (ag (w4 h1) (ag (w4 h2) (ae (EM My) (aa a rfl))))),b⟩
 rw [if_neg My]
 by_cases Y8:o.1=4
 ·rw [if_pos Y8]
  obtain ⟨e,w,a,b⟩:=aef hG s o h RR
  exact ⟨e,w,start _ _ ((D9 _ _ _).trans (ag (w4 h1) (ag (w4 h2) (ag (w4 My) (ae (EM Y8) (aa a rfl)))))),b⟩
 rw [if_neg Y8]
 by_cases UY:o.1=5
 ·rw [if_pos UY]
  obtain ⟨e,w,a,b⟩:=aej hG s o h RR hm UY
  exact ⟨e,w,start _ _ ((D9 _ _ _).trans (ag (w4 h1) (ag (w4 h2) (ag (w4 My) (ag (w4 Y8) (ae (EM UY) (aa a rfl))))))),b⟩
 rw [if_neg UY]
 by_cases hk6:o.1=6
 ·rw [if_pos hk6]
  obtain ⟨e,w,a,b⟩:=aep hG s o h RR
  exact ⟨e,w,start _ _ ((D9 _ _ _).trans (ag (w4 h1) (ag (w4 h2) (ag (w4 My) (ag (w4 Y8) (ag (w4 UY) (ae (EM hk6) (aa a rfl)))))))),b⟩
 rw [if_neg hk6]
 refine ⟨_,_,PA hG (aF s) o (by omega) h.d.sv h.d.se RR.n (by show s.1.2.length≤_;omega),?_⟩
 exact L4 s o
theorem PB(hG:HG G)(s:StateT)(o:bw)(h:gI s)(hf:Fit o)(h3:cp o=0→o.1=3→∃(e:Int) (w:aC),FX G 92 m8 ((o,()),(aF s,()))=some ((e,()),(w,()))∧fw e w=ql s o) :
  FX G 14 DX ((s,o,()),())=some (kl s o,()):=by
 rw [C7]
 have hn:=h.n
 by_cases hm:cp o=0
 ·obtain ⟨e,w,a,b⟩:=G6 hG s o h hm (h3 hm)
  refine (Kf hG s o (US hG o hf) h.d.sm (by omega) (fun _=>a)).trans ?_
  rw [hm,if_neg (by simp),b];rfl
 ·rw [if_pos hm]
  refine au (fn:=Tryz.f14) (hG _ _ rfl) (by kernel_rfl) (by kernel_rfl) ((Xe _ _ _).trans ?_)
  refine aa (US hG o hf) ?_
  exact ae (by simpa using hm) rfl
end Go.Vs
namespace Go.Vs
open Go.Proofs
variable {G:(f:FuncId)→(g:aJ)→Option (g.A→Option g.B)}
def qp(G:(f:FuncId)→(g:aJ)→Option (g.A→Option g.B))(o:bw):Prop:=∀s,gI s→cp o=0→o.1=3→∃(e:Int) (w:aC),FX G 92 m8 ((o,()),(aF s,()))=some ((e,()),(w,()))∧fw e w=ql s o
theorem PC{s:StateT}{o:bw}(hm:cp o=0):Kk s o=kl s o:=by rw [C7,if_neg (by simp [hm])]
theorem aet(hG:HG G)(l:List bw)(hl:l.length≤1073741824)(hm:∀o∈l,cp o=0)(h3:∀o∈l,qp G o):∀(n i:Nat) (s:StateT),i+n=l.length→gI s →
  LX G 44 BR Tryz.f44 Ah (aP Tryz.prog 44 0) ((l,(((l.length:Nat):Int),((i:Int),()))),((zW,(aF s,())),()))=some (HM (l.drop i) s,()):=by
 intro n
 induction n with
 | zero =>
  intro i s hi hw
  refine ar (j:=0) (by kernel_rfl) ((D7 _ _ _).trans ?_)
  refine ag (decide_eq_false (show ¬((i:Int)<((l.length:Nat):Int)) by omega)) ?_
  rw [List.drop_eq_nil_of_le (by omega)];rfl
 | succ n ih =>
  intro i s hi hw
  have aG:i<l.length:=by omega
  have ho:=hm l[i] (List.getElem_mem aG)
  obtain ⟨e,w,h1,h2⟩:=G6 hG s l[i] hw ho (h3 _ (List.getElem_mem aG) s hw ho)
  rw [PC ho] at h2
  refine ar (j:=0) (by kernel_rfl) ((D7 _ _ _).trans ?_)
  refine ae (aT aG) (aa (aK (List.getElem?_eq_getElem aG)) ?_)
  refine aa h1 ?_
  rw [List.drop_eq_getElem_cons aG,HM]
  have Dz:=hw.one l[i]
  by_cases he:e=0
  ·have e1:fw e w=(xY w,(0,())):=if_neg (by simp [he])
   rw [e1] at h2
   rw [←h2] at Dz ⊢
   rw [if_neg (by simp)]
   refine ag (show (e != 0)=false by simp [he]) ?_
   have:=ih (i+1) (xY w) (by omega) Dz
   rw [←aI aG hl] at this
   exact this
  ·have e1:fw e w=(zS,(e,())):=if_pos he
   rw [e1] at h2
   rw [←h2,if_pos he]
   exact ae (show (e != 0)=true by simp [he]) rfl
theorem U3(hG:HG G)(s:StateT)(l:List bw)(hw:gI s)(hl:l.length≤1073741824)(hm:∀o∈l,cp o=0)(h3:∀o∈l,qp G o):FX G 44 BR ((s,l,()),())=some (HM l s,()):=by
 have hn:=hw.n
 refine au (fn:=Tryz.f44) (hG _ _ rfl) (by kernel_rfl) (by kernel_rfl) ((Xh _ _ _).trans ?_)
 refine aa (UN hG s.1 hw.d.sm) ?_
 refine aa (RG (hG _ _ rfl) s.2 (by omega)) ?_
 have:=aet hG l hl hm h3 l.length 0 s (by omega) hw
 rw [List.drop_zero] at this
 exact this
theorem G7(l:List bw)(h:j7 l=0):∀o∈l,cp o=0:=by
 induction l with
 | nil=>intro o ho;simp at ho
 | cons o r ih =>
  rw [j7] at h
  by_cases ho:cp o=0
  ·rw [if_neg (fun k=>k ho)] at h
   intro p hp
   rcases List.mem_cons.1 hp with e | hp
   ·rw [e];exact ho
   ·exact ih h p hp
  ·rw [if_pos ho] at h;exact absurd h ho
theorem I0{l:List bw}(h:de l=0):∀o∈l,cp o=0:=by
 unfold de at h
 split at h
 ·exact G7 l h
 ·cases h
theorem Y9(hG:HG G)(s:StateT)(l:List bw)(hw:gI s)(hl:l.length≤1073741824)(hf:∀o∈l,Fit o)(h3:∀o∈l,qp G o):FX G 30 FG ((s,l,()),())=some (bX s l,()):=by
 refine au (fn:=Tryz.f30) (hG _ _ rfl) (by kernel_rfl) (by kernel_rfl) ((Xf _ _ _).trans ?_)
 refine aa (aeb hG l hl hf) ?_
 unfold bX
 by_cases hm:de l=0
 ·rw [if_neg (by simp [hm])]
  refine ag (show (de l != 0)=false by simp [hm]) ?_
  exact aa (U3 hG s l hw hl (I0 hm) h3) rfl
 ·rw [if_pos hm]
  exact ae (show (de l != 0)=true by simp [hm]) rfl
theorem aeu(hG:HG G)(s:StateT)(l:List bw)(hw:gI s)(hl:l.length≤1073741824)(hf:∀o∈l,Fit o)(h3:∀o∈l,qp G o):FX G 36 Lm ((s,l,()),())=some ((lF s l,()),()):=by
 have hn:=hw.n
 refine au (fn:=Tryz.f36) (hG _ _ rfl) (by kernel_rfl) (by kernel_rfl) ((acp _ _ _).trans ?_)
 refine aa (Y9 hG s l hw hl hf h3) ?_
 unfold lF
 by_cases he:(bX s l).2.1=0
 ·rw [if_neg (by simp [he])]
  exact ag (show ((bX s l).2.1 != 0)=false by simp [he]) rfl
 ·rw [if_pos he]
  refine ae (show ((bX s l).2.1 != 0)=true by simp [he]) ?_
  refine aa (UN hG s.1 hw.d.sm) ?_
  exact aa (RG (hG _ _ rfl) s.2 (by omega)) rfl
end Go.Vs
