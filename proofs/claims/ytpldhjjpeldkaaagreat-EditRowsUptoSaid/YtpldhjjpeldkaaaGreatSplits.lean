/- Edges cut and split, vertices smoothed: what the program computes. -/
import Derived.Test.YtpldhjjpeldkaaaGreatFormed
import Derived.Test.YtpldhjjpeldkaaaGreatTop
set_option linter.unusedVariables false
set_option linter.unusedSimpArgs false
namespace Go.Vs
open Go.Proofs
variable {G:(f:FuncId)→(g:aJ)→Option (g.A→Option g.B)}
theorem Tg(hG:HG G)(v:ak)(x:ab):FX G 155 CA ((v,x,()),())=some ((mA v.1 x,()),()):=by
 refine ar (fn:=Tryz.f155) (hG _ _ rfl) (by kernel_rfl) (by kernel_rfl) ((XQ _ _ _).trans ?_)
 exact aa (Tb hG v.1 x) rfl
def dd(l:List ak)(x:ab):Nat:=l.countP fun v=>kq v.1 x
theorem Ek(l:List ak)(x:ab):dd l x≤l.length:=List.countP_le_length
theorem vP{l:List ak}{x:ab}(h:∀v∈l,kq v.1 x=false):dd l x=0:=by
 unfold dd;rw [List.countP_eq_zero];intro v hv;simp [h v hv]
theorem CS{x:ab}:∀{l:List ak},iw l→∀(k:Nat) (v:ak),l[k]? = some v→(kq v.1 x=true↔k<dd l x)
 | [],_,k,v,h=>by simp at h
 | w::r,hs,k,v,h=>by
  have hw:∀{u:ak},u∈r→kq w.1 u.1=true:=fun {u} hu=>List.rel_of_pairwise_cons hs hu
  have hr:iw r:=hs.of_cons
  by_cases aH:kq w.1 x=true
  ·have e:dd (w::r) x=dd r x+1:=by unfold dd;rw [List.countP_cons_of_pos (by simpa using aH)]
   cases k with
   | zero=>simp at h;subst h;simp [aH,e]
   | succ k=>have:=CS (x:=x) hr k v (by simpa using h);rw [this,e];omega
  ·have hn:∀u∈w::r,kq u.1 x=false:=fun u hu=>by
    rcases List.mem_cons.1 hu with rfl | hu
    ·simpa using aH
    ·rw [Bool.eq_false_iff];intro h2;exact aH (fX (hw hu) h2)
   rw [vP hn,hn v (List.mem_of_getElem? h)]
   simp
theorem Ph(hG:HG G)(l:List ak)(x:ab)(hs:iw l)(hl:l.length≤50000000):∀(n i j:Nat),j - i≤n→i≤dd l x→dd l x≤j→j≤l.length →
  LX G 156154 iQ Tryz.f154 hM (aP Tryz.prog 154 0) ((l,(((l.length:Nat):Int),((i:Int),((j:Int),())))),(((x,()),()),()))=some (((((dd l x:Nat):Int),(decide ((l[dd l x]?).map (·.1)=some x),())):Int×(Bool×Unit)),()):=by
 have ta:=Ek l x
 have fin:∀(i j:Nat),¬(i<j)→i≤dd l x→dd l x≤j→LX G 156154 iQ Tryz.f154 hM (aP Tryz.prog 154 0) ((l,(((l.length:Nat):Int),((i:Int),((j:Int),())))),(((x,()),()),()))=some (((((dd l x:Nat):Int),(decide ((l[dd l x]?).map (·.1)=some x),())):Int×(Bool×Unit)),()):=fun i j yK h1 h2=>by
  have hi:i=dd l x:=by omega
  subst hi
  refine au (j:=0) (by kernel_rfl) ((Ap _ _ _).trans ?_)
  refine ag (decide_eq_false (show ¬(((dd l x:Nat):Int)<(j:Int)) by omega)) ?_
  by_cases hc:dd l x<l.length
  ·have hx:l[dd l x]? = some l[dd l x]:=List.getElem?_eq_getElem hc
   refine ae (aX hc) ?_
   refine aa (aK hx) ?_
   refine aa (Tg hG l[dd l x] x) ?_
   refine congrArg (fun b:Bool=>some ((((dd l x:Nat):Int),(b,())),())) ?_
   rw [hx]
   unfold mA
   by_cases he:l[dd l x].1=x
   ·simp [he]
   ·simp [he];split<;>simp
  ·refine ag (decide_eq_false (show ¬(((dd l x:Nat):Int)<((l.length:Nat):Int)) by omega)) ?_
   refine congrArg (fun b:Bool=>some ((((dd l x:Nat):Int),(b,())),())) ?_
   rw [List.getElem?_eq_none (by omega)];simp
 intro n
 induction n with
 | zero=>intro i j yK h1 h2 h3;exact fin i j (by omega) h1 h2
 | succ n ih =>
  intro i j yK h1 h2 h3
  by_cases aH:i<j
  case neg=>exact fin i j aH h1 h2
  refine au (j:=0) (by kernel_rfl) ((Ap _ _ _).trans ?_)
  refine ae (decide_eq_true (show ((i:Int)<(j:Int)) by omega)) ?_
  refine ag rfl ?_
  have hm:=IE (i:=i) (j:=j) (by omega) (by omega)
  have hh:(i+j) / 2<l.length:=by omega
  have hx:l[(i+j) / 2]? = some l[(i+j) / 2]:=List.getElem?_eq_getElem hh
  have mX:=CS (x:=x) hs ((i+j) / 2) _ hx
  refine aa (show aV l (IntKind.wrap .i64 (ku .u64 (IntKind.wrap .u64 (IntKind.wrap .i64 ((i:Int)+(j:Int)))) (1:Int)))=some l[(i+j) / 2] by rw [hm];exact aK hx) ?_
  refine aa (Tg hG l[(i+j) / 2] x) ?_
  by_cases ho:kq l[(i+j) / 2].1 x=true
  ·refine ae (decide_eq_true ((xV _ _).2 ho)) ?_
   have hc:=mX.1 ho
   have hw:IntKind.wrap .i64 (IntKind.wrap .i64 (ku .u64 (IntKind.wrap .u64 (IntKind.wrap .i64 ((i:Int)+(j:Int)))) (1:Int))+1)=(((i+j) / 2+1:Nat):Int):=by
    rw [hm];exact aI hh (by omega)
   have:=ih ((i+j) / 2+1) j (by omega) (by omega) h2 h3
   rw [←hw] at this
   exact this
  ·refine ag (decide_eq_false (fun h=>ho ((xV _ _).1 h))) ?_
   have hc:¬(i+j) / 2<dd l x:=fun h=>ho (mX.2 h)
   have:=ih i ((i+j) / 2) (by omega) h1 (by omega) (by omega)
   rw [←hm] at this
   exact this
theorem Pj(hG:HG G)(l:List ak)(x:ab)(hs:iw l)(hl:l.length≤50000000) :
  FX G 156154 iQ ((l,x,()),())=some (((((dd l x:Nat):Int),(decide ((l[dd l x]?).map (·.1)=some x),())):Int×(Bool×Unit)),()):=by
 refine ar (fn:=Tryz.f154) (hG _ _ rfl) (by kernel_rfl) (by kernel_rfl) ((Ox _ _ _).trans ?_)
 exact Ph hG l x hs hl l.length 0 l.length (by omega) (by omega) (Ek l x) (Nat.le_refl _)
theorem GI(g:ak):∀{l:List ak},iw l→kD g l=if (l[dd l g.1]?).map (·.1)=some g.1 then l.set (dd l g.1) g else l.take (dd l g.1)++(g::l.drop (dd l g.1))
 | [],_=>rfl
 | w::r,hs=>by
  have hw:∀{u:ak},u∈r→kq w.1 u.1=true:=fun {u} hu=>List.rel_of_pairwise_cons hs hu
  have hr:iw r:=List.Pairwise.of_cons hs
  by_cases aH:kq w.1 g.1=true
  ·have e:dd (w::r) g.1=dd r g.1+1:=by unfold dd;rw [List.countP_cons_of_pos (by simpa using aH)]
   have bj:w.1≠g.1:=fun k=>by rw [k,dw] at aH;cases aH
   have pJ:¬mA g.1 w.1≤0:=fun k=>by
    rcases oy.1 k with k | k
    ·exact bj k.symm
    ·have:=fX aH k;rw [dw] at this;cases this
   have ih:=GI g hr
   rw [e,kD,if_neg pJ,if_pos bj,ih]
   simp only [List.getElem?_cons_succ,List.set_cons_succ,List.take_succ_cons,List.drop_succ_cons,List.cons_append]
   split<;>rfl
  ·have hn:∀u∈w::r,kq u.1 g.1=false:=fun u hu=>by
    rcases List.mem_cons.1 hu with rfl | hu
    ·simpa using aH
    ·rw [Bool.eq_false_iff];intro h2;exact aH (fX (hw hu) h2)
   rw [vP hn]
   by_cases he:w.1=g.1
   ·have UN:mA g.1 w.1≤0:=oy.2 (.inl he.symm)
    have h1:mB g (w::r)=r:=by
     have:mB g (w::r)=mB g r:=by unfold mB;rw [List.filter_cons_of_neg (by simp [he])]
     rw [this]
     exact q6 (fun q hq k=>by have:=hw hq;rw [k,he,dw] at this;cases this)
    rw [kD,if_pos UN,h1,if_pos (by simp [he])];rfl
   ·have Ht:kq g.1 w.1=true:=vM (by simpa using aH) he
    have UN:mA g.1 w.1≤0:=oy.2 (.inr Ht)
    have h1:mB g (w::r)=w::r:=q6 (fun q hq k=>by
     rcases List.mem_cons.1 hq with rfl | hq
     ·exact he k
     ·have:=fX Ht (hw hq);rw [k,dw] at this;cases this)
    rw [kD,if_pos UN,h1,if_neg (by simp [he])];rfl
theorem CT{x:ab}:∀{l:List ak},iw l→(fM l x).isSome=decide ((l[dd l x]?).map (·.1)=some x)
 | [],_=>rfl
 | w::r,hs=>by
  have hw:∀{u:ak},u∈r→kq w.1 u.1=true:=fun {u} hu=>List.rel_of_pairwise_cons hs hu
  have hr:iw r:=List.Pairwise.of_cons hs
  rw [oz]
  by_cases aH:kq w.1 x=true
  ·have e:dd (w::r) x=dd r x+1:=by unfold dd;rw [List.countP_cons_of_pos (by simpa using aH)]
   have bj:w.1≠x:=fun k=>by rw [k,dw] at aH;cases aH
   rw [e,if_neg bj,CT hr,List.getElem?_cons_succ]
  ·have hn:∀u∈w::r,kq u.1 x=false:=fun u hu=>by
    rcases List.mem_cons.1 hu with rfl | hu
    ·simpa using aH
    ·rw [Bool.eq_false_iff];intro h2;exact aH (fX (hw hu) h2)
   rw [vP hn]
   by_cases he:w.1=x
   ·simp [he]
   ·have Ht:kq x w.1=true:=vM (by simpa using aH) he
    have:fM r x=none:=by
     unfold fM
     have:(List.find? (fun q=>decide (q.1=x)) r)=none:=by
      rw [List.find?_eq_none];intro q hq k
      have k:q.1=x:=by simpa using k
      have:=fX Ht (hw hq);rw [k,dw] at this;cases this
     rw [this];rfl
    rw [if_neg he,this];simp [he]
theorem YV(hG:HG G)(l:List ak)(g:ak)(hs:iw l)(hl:l.length≤50000000):FX G 139 FP ((l,g,()),())=some ((bK l g,()),()):=by
 refine ar (fn:=Tryz.f139) (hG _ _ rfl) (by kernel_rfl) (by kernel_rfl) ((XG _ _ _).trans ?_)
 refine aa (Pj hG l g.1 hs hl) ?_
 refine aa (Ru (hG _ _ rfl) l hl) ?_
 unfold bK
 rw [CT hs,GI g hs]
 have hc:dd l g.1≤l.length:=Ek l g.1
 by_cases h:(l[dd l g.1]?).map (·.1)=some g.1
 ·rw [decide_eq_true h,if_neg (fun k=>by cases k.1),if_pos h]
  refine ae rfl ?_
  obtain ⟨u,hu,_⟩:∃u,l[dd l g.1]? = some u∧u.1=g.1:=by
   cases hq:l[dd l g.1]? with
   | none=>rw [hq] at h;cases h
   | some u=>rw [hq] at h;exact ⟨u,rfl,by simpa using h⟩
  have aH:=(List.getElem?_eq_some_iff.1 hu).1
  refine ae (dv (eC _) (aX aH)) ?_
  exact aa hu rfl
 ·rw [decide_eq_false h,if_neg h]
  refine ag rfl ?_
  by_cases h4:400≤l.length
  ·rw [if_pos ⟨rfl,h4⟩]
   exact ag (decide_eq_false (show ¬((l.length:Nat):Int)<400 by omega)) rfl
  ·rw [if_neg (fun k=>h4 k.2)]
   refine ae (decide_eq_true (show ((l.length:Nat):Int)<400 by omega)) ?_
   have lG:pj l ((dd l g.1:Nat):Int) [g]=true:=by
    unfold pj
    rw [decide_eq_true (show (0:Int)≤((dd l g.1:Nat):Int) by omega),decide_eq_true (show ((dd l g.1:Nat):Int)≤((l.length:Nat):Int) by omega)]
    rw [fits (by simp;omega)];rfl
   refine ae lG ?_
   have e:fD l ((dd l g.1:Nat):Int) [g]=l.take (dd l g.1)++(g::l.drop (dd l g.1)):=by unfold fD;simp
   exact congrArg (fun r:List ak=>some ((r,()),())) e
theorem CU(hG:HG G)(w:aC)(x to:ab)(hs:iw w.2.2.1)(hl:w.2.2.1.length≤50000000):FX G 116 zK ((x,to,()),(w,()))=some ((),((w.1,(w.2.1,(bK w.2.2.1 (x,to),()))),())):=by
 refine ar (fn:=Tryz.f116) (hG _ _ rfl) (by kernel_rfl) (by kernel_rfl) ((Xp _ _ _).trans ?_)
 exact aa (YV hG w.2.2.1 (x,to) hs hl) rfl
theorem CV(hG:HG G)(w:aC)(x:ab)(hw:Rw w.1)(hl:w.1.length≤50000000)(hr:∀v∈w.1,v.2.1.length≤50000000){k:Nat}{v:ah}(hk:w.1[k]? = some v)(hx:x∈v.2.1) :
  FX G 118 lq ((x,()),(w,()))=some (((some ((⟨0,by decide⟩:Fin 1),k)),()),(w,())):=by
 refine ar (fn:=Tryz.f118) (hG _ _ rfl) (by kernel_rfl) (by kernel_rfl) ((Xr _ _ _).trans ?_)
 have ME:=(List.getElem?_eq_some_iff.1 hk).1
 have loop:∀(n i:Nat),i+n=k→LX G 118 lq Tryz.f118 tX (aP Tryz.prog 118 0) ((((w.1.length:Nat):Int),((i:Int),())),((w,((x,()),())),()))=some (((some ((⟨0,by decide⟩:Fin 1),k)),()),(w,())):=by
  intro n
  induction n with
  | zero =>
   intro i hi
   have hi:i=k:=by omega
   subst hi
   refine au (j:=0) (by kernel_rfl) ((JB _ _ _).trans ?_)
   refine ae (aX ME) (ae (dv (eC _) (aX ME)) (aa hk ?_))
   refine aa (CI hG v.2.1 x (by have:=hr v (List.mem_of_getElem? hk);omega)) ?_
   exact ae (decide_eq_true hx) rfl
  | succ n ih =>
   intro i hi
   have nF:i<w.1.length:=by omega
   have hu:w.1[i]? = some w.1[i]:=List.getElem?_eq_getElem nF
   have Cm:x∉w.1[i].2.1:=fun hxi=>by
    have h1:w.1[i]=v:=hw.one (List.mem_of_getElem? hk) (List.getElem_mem nF) hx hxi
    have h2:=jy hw.s hk rfl
    have h3:=jy hw.s (x:=v.1) hu (by rw [h1])
    omega
   refine au (j:=0) (by kernel_rfl) ((JB _ _ _).trans ?_)
   refine ae (aX nF) (ae (dv (eC _) (aX nF)) (aa hu ?_))
   refine aa (CI hG w.1[i].2.1 x (by have:=hr _ (List.getElem_mem nF);omega)) ?_
   refine ag (decide_eq_false Cm) ?_
   have:=ih (i+1) (by omega)
   rw [←aI nF (by omega)] at this
   exact this
 exact loop k 0 (by omega)
theorem II{l:List ah}{k:Nat}{v:ah}(hs:bW l)(hk:l[k]? = some v)(r:List ab):l.set k (v.1,(r,v.2.2))=l.map (qR v.1 r):=by
 have h:=ns hs (List.mem_of_getElem? hk)
 rw [jy hs hk rfl]
 refine (GA hs h (qR v.1 r) (fun u=>(u.1,(r,u.2.2))) (fun u hu => ?_) (fun u hu => ?_)).symm
 ·unfold qR;rw [if_pos hu]
 ·unfold qR;rw [if_neg hu]
theorem qk{l:List ah}{x:ab}(h:x∈aw l):∃(k:Nat) (v:ah),l[k]? = some v∧x∈v.2.1∧v∈l:=by
 obtain ⟨v,hv,hx⟩:=bD.1 h
 obtain ⟨k,hk,he⟩:=List.getElem_of_mem hv
 exact ⟨k,v,by rw [List.getElem?_eq_getElem hk,he],hx,hv⟩
structure Sv(l:List ah):Prop where
 n:l.length≤50000000
 r:∀v∈l,v.2.1.length≤50000000
theorem Pk{n:Int}(h:n=0∨n=1):eg .xor .i64 n 1=IntKind.wrap .i64 (1 - n):=by
 rcases h with rfl | rfl<;>decide
theorem GJ(hG:G 122 m0=none)(x:ab)(h:x.2=0∨x.2=1):FX G 122 m0 ((x,()),())=some ((aq x,()),()):=by
 refine ar (fn:=Tryz.f122) hG (by kernel_rfl) (by kernel_rfl) ((Xu _ _ _).trans ?_)
 exact congrArg (fun n:Int=>some ((((x.1,n):ab),()),())) (Pk h)
theorem LL{d:ai}(h:Rw d.1){v:ah}{x:ab}(hv:v∈d.1)(hx:x∈v.2.1):cZ d x=if (iS v.2.1 x).1=x.1 then (if (iS v.2.1 (iS v.2.1 x)).1=x.1 then zD else iS v.2.1 (iS v.2.1 x)) else iS v.2.1 x:=by
 unfold cZ
 have e:bJ d ((cp d x).getD zI)=v.2.1:=by
  unfold cp;rw [mE h hv hx];exact jC h.s hv
 simp only [e]
 by_cases h1:(iS v.2.1 x).1=x.1
 ·simp only [if_pos h1]
 ·simp only [if_neg h1]
theorem Th(hG:HG G)(w:aC)(x:ab)(hw:Rw w.1)(hs:Sv w.1)(hx:x∈aw w.1)(e:List af):FX G 117 zL ((x,()),(w,()))=some ((cZ (w.1,e) x,()),(w,())):=by
 obtain ⟨k,v,hk,ki,hv⟩:=qk hx
 have Nt:=hs.r v hv
 refine ar (fn:=Tryz.f117) (hG _ _ rfl) (by kernel_rfl) (by kernel_rfl) ((Xq _ _ _).trans ?_)
 rw [LL (d:=(w.1,e)) hw hv ki]
 have prev:∀y:ab,FX G 140 Cx ((v.2.1,y,()),())=some (((iS v.2.1 y),((Gk (du v.2.1 y (v.2.1.length - 1))).2)),()):=fun y=>by
  refine (YR hG v.2.1 y (by omega)).trans ?_
  have:(Gk (du v.2.1 y (v.2.1.length - 1))).1=iS v.2.1 y:=xS _
  rw [←this]
 have gI:∀y:ab,((y.1.1==x.1.1)&&(y.1.2==x.1.2))=decide (y.1=x.1):=fun y=>iY y.1 x.1
 refine au (j:=0) (by kernel_rfl) ((DY _ _ _).trans ?_)
 refine ae rfl (aa (CV hG w x hw hs.n hs.r hk ki) ?_)
 refine rT rfl (ae rfl (aa hk ?_))
 refine aa (prev x) ?_
 by_cases h1:(iS v.2.1 x).1=x.1
 ·rw [if_pos h1]
  refine aY ((gI _).trans (decide_eq_true h1)) ?_
  refine au (j:=0) (by kernel_rfl) ((DY _ _ _).trans ?_)
  refine ae rfl (aa (CV hG w x hw hs.n hs.r hk ki) ?_)
  refine rT rfl (ae rfl (aa hk ?_))
  refine aa (prev (iS v.2.1 x)) ?_
  by_cases h2:(iS v.2.1 (iS v.2.1 x)).1=x.1
  ·rw [if_pos h2]
   refine aY ((gI _).trans (decide_eq_true h2)) ?_
   refine au (j:=0) (by kernel_rfl) ((DY _ _ _).trans ?_)
   exact ag rfl rfl
  ·rw [if_neg h2]
   exact aY ((gI _).trans (decide_eq_false h2)) rfl
 ·rw [if_neg h1]
  exact aY ((gI _).trans (decide_eq_false h1)) rfl
theorem GK{l:List af}{x:ID}(hs:c6 l)(h:(bf l x).isSome=true)(hl:l.length≤50000000) :
  iZ l ((bX l x:Nat):Int) (IntKind.wrap .i64 (((bX l x:Nat):Int)+1))=true∧c8 l ((bX l x:Nat):Int) (IntKind.wrap .i64 (((bX l x:Nat):Int)+1))=cM l x:=by
 obtain ⟨e,he⟩:=Option.isSome_iff_exists.1 h
 have aH:=(List.getElem?_eq_some_iff.1 (lD hs he)).1
 have hw:IntKind.wrap .i64 (((bX l x:Nat):Int)+1)=((bX l x+1:Nat):Int):=aI aH (by omega)
 constructor
 ·rw [hw]
  unfold iZ
  rw [decide_eq_true (show (0:Int)≤((bX l x:Nat):Int) by omega),decide_eq_true (show ((bX l x:Nat):Int)<((bX l x+1:Nat):Int) by omega),decide_eq_true (show ((bX l x+1:Nat):Int)≤((l.length:Nat):Int) by omega),fits (by omega)];rfl
 ·rw [hw,vK hs h]
  unfold c8;simp only [Int.toNat_natCast]
theorem Pn{l:List ah}{x:ID}(hs:bW l)(h:(aR l x).isSome=true)(hl:l.length≤50000000) :
  iZ l ((bC l x:Nat):Int) (IntKind.wrap .i64 (((bC l x:Nat):Int)+1))=true∧c8 l ((bC l x:Nat):Int) (IntKind.wrap .i64 (((bC l x:Nat):Int)+1))=dC l x:=by
 obtain ⟨e,he⟩:=Option.isSome_iff_exists.1 h
 have aH:=(List.getElem?_eq_some_iff.1 (cX hs he)).1
 have hw:IntKind.wrap .i64 (((bC l x:Nat):Int)+1)=((bC l x+1:Nat):Int):=aI aH (by omega)
 constructor
 ·rw [hw]
  unfold iZ
  rw [decide_eq_true (show (0:Int)≤((bC l x:Nat):Int) by omega),decide_eq_true (show ((bC l x:Nat):Int)<((bC l x+1:Nat):Int) by omega),decide_eq_true (show ((bC l x+1:Nat):Int)≤((l.length:Nat):Int) by omega),fits (by omega)];rfl
 ·rw [hw,vH hs h]
  unfold c8;simp only [Int.toNat_natCast]
theorem Sv.re{l:List ah}(h:Sv l)(x:ID){r:List ab}(hr:r.length≤50000000):Sv (l.map (qR x r)):=by
 refine ⟨by simp;exact h.n,fun w hw => ?_⟩
 obtain ⟨u,hu,rfl⟩:=List.mem_map.1 hw
 unfold qR
 split
 ·exact hr
 ·exact h.r u hu
theorem AQ{row:List ab}(d:ab):(gH row d).length≤row.length:=by
 unfold gH;rw [fL];exact List.length_filter_le _ _
theorem J4{w:aC}{x:ab}(hw:Rw w.1){k:Nat}{v:ah}(hk:w.1[k]? = some v)(hx:x∈v.2.1)(e:List af):w.1.set k (v.1,(gH v.2.1 x,v.2.2))=(aB (w.1,e) x).1:=by
 rw [jD (d:=(w.1,e)) hw (List.mem_of_getElem? hk) hx]
 exact II hw.s hk _
theorem ad7(hG:HG G)(s:StateT)(o:bB)(h:hP s)(hs:Sv s.1.1) :
  ∃(e:Int) (w:aC),FX G 93 zF ((o,()),(aF s,()))=some ((e,()),(w,()))∧fO e w=Ee s o:=by
 have bj:=h.d.ne
 unfold Ee
 cases hf:(bf s.1.2 (aS o)).isSome with
 | false =>
  refine ⟨13,aF s,?_,?_⟩
  ·refine ar (fn:=Tryz.f93) (hG _ _ rfl) (by kernel_rfl) (by kernel_rfl) ((Xa _ _ _).trans ?_)
   refine aa (np hG (aF s) (aS o) h.d.se (by show s.1.2.length≤_;omega)) ?_
   exact aY ((c4 (l:=s.1.2) h.d.se).trans hf) rfl
  ·rw [if_pos (show (gI s.1 (aS o)).isSome=false from hf)];rfl
 | true =>
  rw [if_neg (show ¬(gI s.1 (aS o)).isSome=false by show ¬(bf s.1.2 (aS o)).isSome=false;rw [hf];simp)]
  obtain ⟨x,hx⟩:∃x:ab,x=(aS o,0):=⟨_,rfl⟩
  obtain ⟨y,hy⟩:∃y:ab,y=(aS o,1):=⟨_,rfl⟩
  have hxd:x∈aw s.1.1:=by rw [hx];exact h.d.mF hf (.inl rfl)
  have YW:y∈aw s.1.1:=by rw [hy];exact h.d.mF hf (.inr rfl)
  have g1:=jF h.g h.n (x,cZ s.1 x)
  have hn:=h.n
  obtain ⟨p1,q1⟩:=eP h.d.rw hxd
  have ad9:y∈aw (aB s.1 x).1:=by
   rcases List.mem_cons.1 (p1.mem_iff.1 YW) with k | k
   ·rw [hx,hy] at k;cases k
   ·exact k
  have Mn:=jE (jE h.d.gv x) y
  refine ⟨0,((aB (aB s.1 x) y).1,(cM s.1.2 (aS o),(bK (bK s.2 (x,cZ s.1 x)) (y,cZ s.1 y),()))),?_,?_⟩
  ·refine ar (fn:=Tryz.f93) (hG _ _ rfl) (by kernel_rfl) (by kernel_rfl) ((Xa _ _ _).trans ?_)
   refine aa (np hG (aF s) (aS o) h.d.se (by show s.1.2.length≤_;omega)) ?_
   refine aY ((c4 (l:=s.1.2) h.d.se).trans hf) (ag rfl ?_)
   have aea:FX G 111 zG ((aS o,()),())=some ((x,y,()),()):=by
    rw [hx,hy];exact ar (fn:=Tryz.f111) (hG _ _ rfl) (by kernel_rfl) (by kernel_rfl) (SO _ _ _)
   refine aa aea ?_
   refine au (j:=0) (by kernel_rfl) ((Il _ _ _).trans ?_)
   refine ae rfl (ae rfl (aa (a:=x) rfl ?_))
   refine aa (Th hG (aF s) x h.d.rw hs hxd s.1.2) ?_
   refine aa (CU hG (aF s) x (cZ s.1 x) h.g (by show s.2.length≤_;omega)) ?_
   refine au (j:=0) (by kernel_rfl) ((Il _ _ _).trans ?_)
   refine ae rfl (ae rfl (aa (a:=y) rfl ?_))
   refine aa (Th hG (s.1.1,(s.1.2,(bK s.2 (x,cZ s.1 x),()))) y h.d.rw hs YW s.1.2) ?_
   refine aa (CU hG (s.1.1,(s.1.2,(bK s.2 (x,cZ s.1 x),()))) y (cZ s.1 y) g1.1 (by have:=g1.2;show (bK s.2 (x,cZ s.1 x)).length≤_;omega)) ?_
   refine au (j:=0) (by kernel_rfl) ((Il _ _ _).trans ?_)
   refine ag rfl ?_
   generalize bK (bK s.2 (x,cZ s.1 x)) (y,cZ s.1 y)=gg
   obtain ⟨k,v,hk,ki,hv⟩:=qk hxd
   refine au (j:=1) (by kernel_rfl) ((Im _ _ _).trans ?_)
   refine ae rfl (ae rfl (aa (a:=x) rfl ?_))
   refine aa (CV hG (s.1.1,(s.1.2,(gg,()))) x h.d.rw hs.n hs.r hk ki) ?_
   refine rT rfl (ae rfl (aa hk ?_))
   refine aa (Te hG v.2.1 x (h.d.rw.ring hv) (hs.r v hv)) ?_
   refine aa hk ?_
   have e1:s.1.1.set k (v.1,(gH v.2.1 x,v.2.2))=(aB s.1 x).1:=J4 (w:=(s.1.1,(s.1.2,(gg,())))) h.d.rw hk ki s.1.2
   have Ey:Sv (aB s.1 x).1:=by
    rw [jD h.d.rw hv ki]
    exact hs.re _ (Nat.le_trans (AQ x) (hs.r v hv))
   obtain ⟨k2,v2,nE,YS,wh⟩:=qk ad9
   have e2:(aB s.1 x).1.set k2 (v2.1,(gH v2.2.1 y,v2.2.2))=(aB (aB s.1 x) y).1:=J4 (w:=((aB s.1 x).1,(s.1.2,(gg,())))) q1 nE YS (aB s.1 x).2
   have rest:∀a:List ah,a=(aB s.1 x).1→LX G 93 zF Tryz.f93 vv (aP Tryz.prog 93 1) ((((bX s.1.2 (aS o):Nat):Int),((2:Int),((1:Int),()))),(((a,(s.1.2,(gg,()))),()),([x,y],())))=some (((0:Int),()),(((aB (aB s.1 x) y).1,(cM s.1.2 (aS o),(gg,()))),())):=by
    intro a ha
    subst ha
    refine au (j:=1) (by kernel_rfl) ((Im _ _ _).trans ?_)
    refine ae rfl (ae rfl (aa (a:=y) rfl ?_))
    refine aa (CV hG ((aB s.1 x).1,(s.1.2,(gg,()))) y q1 Ey.n Ey.r nE YS) ?_
    refine rT rfl (ae rfl (aa nE ?_))
    refine aa (Te hG v2.2.1 y (q1.ring wh) (Ey.r v2 wh)) ?_
    refine aa nE ?_
    have last:∀b:List ah,b=(aB (aB s.1 x) y).1→LX G 93 zF Tryz.f93 vv (aP Tryz.prog 93 1) ((((bX s.1.2 (aS o):Nat):Int),((2:Int),((2:Int),()))),(((b,(s.1.2,(gg,()))),()),([x,y],())))=some (((0:Int),()),(((aB (aB s.1 x) y).1,(cM s.1.2 (aS o),(gg,()))),())):=by
     intro b hb
     subst hb
     refine au (j:=1) (by kernel_rfl) ((Im _ _ _).trans ?_)
     obtain ⟨d1,d2⟩:=GK h.d.se hf (by omega)
     refine ag rfl (ae d1 ?_)
     exact congrArg (fun l:List af=>some (((0:Int),()),(((aB (aB s.1 x) y).1,(l,(gg,()))),()))) d2
    exact last _ e2
   exact rest _ e1
  ·rw [←hx,←hy]
   unfold bu
   rw [uA Mn]
   rfl
end Go.Vs
namespace Go.Vs
open Go.Proofs
variable {G:(f:FuncId)→(g:aJ)→Option (g.A→Option g.B)}
theorem IJ{n:Int}(h0:0≤n)(h3:n≤3):eg .xor .i64 1 (eg .and .i64 n 1)=IntKind.wrap .i64 (1 - Int.tmod n 2)∧ku .i64 n 1=IntKind.wrap .i64 (Int.tdiv n 2):=by
 have:n=0∨n=1∨n=2∨n=3:=by omega
 rcases this with rfl | rfl | rfl | rfl<;>exact ⟨by decide,by decide⟩
theorem GL{l:List ah}{x:ab}(hw:Rw l){k:Nat}{v:ah}(hk:l[k]? = some v)(hx:x∈v.2.1)(y:ab)(e:List af):l.set k (v.1,(je v.2.1 x y,v.2.2))=(aD (l,e) x y).1:=by
 rw [AJ (d:=(l,e)) hw y (List.mem_of_getElem? hk) hx]
 exact II hw.s hk _
theorem aeb(hG:HG G)(s:StateT)(o:bB)(h:hP s)(hs:Sv s.1.1)(hm:cx o=0)(UO:o.1=5) :
    ∃(e:Int) (w:aC),FX G 94 xi ((o,()),(aF s,()))=some ((e,()),(w,()))∧fO e w=lB s o:=by
  have bj:=h.d.ne;have QB:=h.d.nv
  obtain ⟨m1,m2,m3,m4⟩:=CP hm UO
  obtain ⟨s1,s2⟩:=GH m3 m4
  obtain ⟨c1,c2⟩:=IJ m3 m4
  have key:∀(e:Int) (w:aC),FX G 94 xi ((o,()),(aF s,()))=some ((e,()),(w,()))→fO e w=lB s o→∃(e:Int) (w:aC),FX G 94 xi ((o,()),(aF s,()))=some ((e,()),(w,()))∧fO e w=lB s o:=fun e w a b=>⟨e,w,a,b⟩
  have start:∀(e:Int) (w:aC),bY 94 xi Tryz.f94 (FX G) (LX G 94 xi Tryz.f94) ((o,()),(aF s,()))=some ((e,()),(w,()))→FX G 94 xi ((o,()),(aF s,()))=some ((e,()),(w,())):=fun e w a =>
    ar (fn:=Tryz.f94) (hG _ _ rfl) (by kernel_rfl) (by kernel_rfl) a
  unfold lB
  cases hf:(bf s.1.2 (aS o)).isSome with
  | false =>
    refine ⟨13,aF s,start _ _ ((Q8 _ _ _).trans ?_),?_⟩
    · refine aa (np hG (aF s) (aS o) h.d.se (by show s.1.2.length≤_;omega)) ?_
      refine aa (oQ hG (aF s) (ed o) h.d.sv (by show s.1.1.length≤_;omega)) ?_
      refine aa (np hG (aF s) (aU o) h.d.se (by show s.1.2.length≤_;omega)) ?_
      exact aY ((c4 (l:=s.1.2) h.d.se).trans hf) rfl
    · rw [if_pos (show (gI s.1 (aS o)).isSome=false from hf)];rfl
  | true =>
  rw [if_neg (show ¬(gI s.1 (aS o)).isSome=false by show ¬(bf s.1.2 (aS o)).isSome=false;rw [hf];simp)]
  cases QR:(aR s.1.1 (ed o)).isSome with
  | true =>
    refine ⟨12,aF s,start _ _ ((Q8 _ _ _).trans ?_),?_⟩
    · refine aa (np hG (aF s) (aS o) h.d.se (by show s.1.2.length≤_;omega)) ?_
      refine aa (oQ hG (aF s) (ed o) h.d.sv (by show s.1.1.length≤_;omega)) ?_
      refine aa (np hG (aF s) (aU o) h.d.se (by show s.1.2.length≤_;omega)) ?_
      refine aY ((c4 (l:=s.1.2) h.d.se).trans hf) (ag rfl ?_)
      exact ae ((fa (l:=s.1.1) h.d.sv).trans QR) rfl
    · rw [if_pos (show (bh s.1 (ed o)).isSome=true from QR)];rfl
  | false =>
  rw [if_neg (show ¬(bh s.1 (ed o)).isSome=true by show ¬(aR s.1.1 (ed o)).isSome=true;rw [QR];simp)]
  cases Rd:(bf s.1.2 (aU o)).isSome with
  | true =>
    refine ⟨12,aF s,start _ _ ((Q8 _ _ _).trans ?_),?_⟩
    · refine aa (np hG (aF s) (aS o) h.d.se (by show s.1.2.length≤_;omega)) ?_
      refine aa (oQ hG (aF s) (ed o) h.d.sv (by show s.1.1.length≤_;omega)) ?_
      refine aa (np hG (aF s) (aU o) h.d.se (by show s.1.2.length≤_;omega)) ?_
      refine aY ((c4 (l:=s.1.2) h.d.se).trans hf) (ag rfl ?_)
      refine ag ((fa (l:=s.1.1) h.d.sv).trans QR) ?_
      exact ae ((c4 (l:=s.1.2) h.d.se).trans Rd) rfl
    · rw [if_pos (show (gI s.1 (aU o)).isSome=true from Rd)];rfl
  | false =>
  rw [if_neg (show ¬(gI s.1 (aU o)).isSome=true by show ¬(bf s.1.2 (aU o)).isSome=true;rw [Rd];simp)]
  have aec:aR s.1.1 (ed o)=none:=by simpa using QR
  have aed:bf s.1.2 (aU o)=none:=by simpa using Rd
  obtain ⟨m,Mi⟩:∃m:ab,m=Hu o:=⟨_,rfl⟩
  obtain ⟨kk,QG⟩:∃m:ab,m=Ez o:=⟨_,rfl⟩
  have hmd:m∈aw s.1.1:=by rw [Mi];exact h.d.mF hf s1
  have Hs:aq kk∉aw s.1.1:=by rw [QG];exact h.d.xY aed _
  obtain ⟨p1,q1⟩:=ox h.d.rw hmd Hs
  have nE:kk.2=0∨kk.2=1:=by rw [QG];exact s2
  obtain ⟨k,v,hk,ki,hv⟩:=qk hmd
  have e1:s.1.1.set k (v.1,(je v.2.1 m (aq kk),v.2.2))=(aD s.1 m (aq kk)).1:=GL h.d.rw hk ki _ s.1.2
  have hlen:(aD s.1 m (aq kk)).1.length=s.1.1.length:=by unfold aD;exact fP _ _ _
  have RC:aR (aD s.1 m (aq kk)).1 (ed o)=none:=by
    unfold aD Vs.b5
    rw [nm (qj _ _),aec];rfl
  have eM:((aS o,eg .xor .i64 1 (eg .and .i64 (oN o) 1)):ab)=m:=by rw [Mi,c1];rfl
  have eK:((aU o,ku .i64 (oN o) 1):ab)=kk:=by rw [QG,c2];rfl
  have go:∀(e:Int) (w:aC),(∀a:List ah,a=(aD s.1 m (aq kk)).1→((FX G 90 FF (((ed o,(cG [m,kk],(e0,(0:Int)))),()),((a,(s.1.2,(s.2,()))),()))).bind fun (kz:((Int×Unit)×(aC×Unit))) =>
       cond (kz.1.1 != (0:Int))
        (some (kz.1,((kz.2.1.1,(kz.2.1.2.1,kz.2.1.2.2)),())))
        ((FX G 110 wM ((aU o,()),((kz.2.1.1,(kz.2.1.2.1,kz.2.1.2.2)),()))).bind fun (lM:((Int×Unit)×(aC×Unit))) =>
        some (lM.1,((lM.2.1.1,(lM.2.1.2.1,lM.2.1.2.2)),()))))=some ((e,()),(w,())))→FX G 94 xi ((o,()),(aF s,()))=some ((e,()),(w,())):=fun e w rest=>by
    refine start _ _ ((Q8 _ _ _).trans ?_)
    refine aa (np hG (aF s) (aS o) h.d.se (by show s.1.2.length≤_;omega)) ?_
    refine aa (oQ hG (aF s) (ed o) h.d.sv (by show s.1.1.length≤_;omega)) ?_
    refine aa (np hG (aF s) (aU o) h.d.se (by show s.1.2.length≤_;omega)) ?_
    refine aY ((c4 (l:=s.1.2) h.d.se).trans hf) (ag rfl ?_)
    refine ag ((fa (l:=s.1.1) h.d.sv).trans QR) ?_
    refine ag ((c4 (l:=s.1.2) h.d.se).trans Rd) ?_
    refine ag rfl ?_
    have body:∀mm k2:ab,mm=m→k2=kk→((FX G 118 lq ((mm,()),(aF s,()))).bind fun (y4:(((Option ((Fin 1)×Nat))×Unit)×(aC×Unit))) =>
      pf y4.1.1
       (none) fun (p5:((Fin 1)×Nat)) =>
      cond (p5.1.val==0)
       (((y4.2.1.1)[p5.2]?).bind fun (y6:ah) =>
       (FX G 122 m0 ((k2,()),())).bind fun (y7:((ab×Unit)×Unit)) =>
       (FX G 121 rN ((y6.2.1,(mm,((y7.1.1.1,y7.1.1.2),()))),())).bind fun (y8:(((List ab)×Unit)×Unit)) =>
       ((y4.2.1.1)[p5.2]?).bind fun (y9:ah) =>
       (FX G 123 pX (([mm,k2],()),())).bind fun (oq:(((List ab)×Unit)×Unit)) =>
       (FX G 90 FF (((ed o,(oq.1.1,((⟨#[]⟩:ByteArray),(0:Int)))),()),(((List.set y4.2.1.1 p5.2 (y9.1,(y8.1.1,y9.2.2))),(y4.2.1.2.1,y4.2.1.2.2)),()))).bind fun (kz:((Int×Unit)×(aC×Unit))) =>
       cond (kz.1.1 != (0:Int))
        (some (kz.1,((kz.2.1.1,(kz.2.1.2.1,kz.2.1.2.2)),())))
        ((FX G 110 wM ((aU o,()),((kz.2.1.1,(kz.2.1.2.1,kz.2.1.2.2)),()))).bind fun (lM:((Int×Unit)×(aC×Unit))) =>
        some (lM.1,((lM.2.1.1,(lM.2.1.2.1,lM.2.1.2.2)),()))))
       (none))=some ((e,()),(w,())):=by
      intro mm k2 aee aef
      subst aee aef
      refine aa (CV hG (aF s) mm h.d.rw hs.n hs.r hk ki) ?_
      refine rT rfl (ae rfl (aa hk ?_))
      refine aa (GJ (hG _ _ rfl) k2 nE) ?_
      refine aa (Tf hG v.2.1 mm (aq k2) (hs.r v hv)) ?_
      refine aa hk ?_
      refine aa (CJ hG [mm,k2] (by simp)) ?_
      exact rest _ e1
    exact body _ _ eM eK
  have aeg:24≤s.1.1.length→oR ((aD s.1 m (aq kk)).1,(s.1.2,(s.2,()))) (ed o,(cG [m,kk],(e0,0)))=(3,((aD s.1 m (aq kk)).1,(s.1.2,(s.2,())))):=fun hb=>by
    unfold oR
    rw [if_neg (by rw [show aR ((aD s.1 m (aq kk)).1,(s.1.2,(s.2,()))).1 ((ed o,(cG [m,kk],(e0,0))):ah).1=none from RC];simp)]
    rw [if_pos (by show 24≤(aD s.1 m (aq kk)).1.length;omega)]
  have UP:¬24≤s.1.1.length→oR ((aD s.1 m (aq kk)).1,(s.1.2,(s.2,()))) (ed o,(cG [m,kk],(e0,0)))=(0,(dR (ed o,(cG [m,kk],(e0,0))) (aD s.1 m (aq kk)).1,(s.1.2,(s.2,())))):=fun hb=>by
    unfold oR
    rw [if_neg (by rw [show aR ((aD s.1 m (aq kk)).1,(s.1.2,(s.2,()))).1 ((ed o,(cG [m,kk],(e0,0))):ah).1=none from RC];simp)]
    rw [if_neg (by show ¬24≤(aD s.1 m (aq kk)).1.length;omega)]
  by_cases hb:24≤s.1.1.length
  · refine ⟨3,((aD s.1 m (aq kk)).1,(s.1.2,(s.2,()))),go _ _ (fun a ha => ?_),?_⟩
    · subst ha
      refine aa (Rv hG ((aD s.1 m (aq kk)).1,(s.1.2,(s.2,()))) (ed o,(cG [m,kk],(e0,0))) q1.s (by show (aD s.1 m (aq kk)).1.length≤_;omega)) ?_
      rw [aeg hb]
      exact ae rfl rfl
    · rw [if_pos hb];rfl
  rw [if_neg hb]
  have hE:rU (dR (ed o,(cG [m,kk],(e0,0))) (aD s.1 m (aq kk)).1,(s.1.2,(s.2,()))) (aU o)=if 40≤s.1.2.length then (3,(dR (ed o,(cG [m,kk],(e0,0))) (aD s.1 m (aq kk)).1,(s.1.2,(s.2,())))) else (0,(dR (ed o,(cG [m,kk],(e0,0))) (aD s.1 m (aq kk)).1,(dm (aU o,(e0,0)) s.1.2,(s.2,())))):=by
    unfold rU
    rw [if_neg (by show ¬(bf s.1.2 (aU o)).isSome=true;rw [Rd];simp)]
  have fin:FX G 94 xi ((o,()),(aF s,()))=some (((rU (dR (ed o,(cG [m,kk],(e0,0))) (aD s.1 m (aq kk)).1,(s.1.2,(s.2,()))) (aU o)).1,()),((rU (dR (ed o,(cG [m,kk],(e0,0))) (aD s.1 m (aq kk)).1,(s.1.2,(s.2,()))) (aU o)).2,())):=by
    refine go _ _ (fun a ha => ?_)
    subst ha
    refine aa (Rv hG ((aD s.1 m (aq kk)).1,(s.1.2,(s.2,()))) (ed o,(cG [m,kk],(e0,0))) q1.s (by show (aD s.1 m (aq kk)).1.length≤_;omega)) ?_
    rw [UP hb]
    refine ag rfl ?_
    exact aa (S8 hG (dR (ed o,(cG [m,kk],(e0,0))) (aD s.1 m (aq kk)).1,(s.1.2,(s.2,()))) (aU o) h.d.se (by show s.1.2.length≤_;omega)) rfl
  rw [hE] at fin
  by_cases X6:40≤s.1.2.length
  · rw [if_pos X6] at fin ⊢
    exact ⟨_,_,fin,rfl⟩
  · rw [if_neg X6] at fin ⊢
    refine ⟨_,_,fin,?_⟩
    rw [Mi,QG];rfl
theorem aeh(hG:HG G)(s:StateT)(o:bB)(h:hP s)(hs:Sv s.1.1) :
    ∃(e:Int) (w:aC),FX G 95 pW ((o,()),(aF s,()))=some ((e,()),(w,()))∧fO e w=kE s o:=by
  have bj:=h.d.ne;have QB:=h.d.nv;have hgn:=h.n
  have start:∀(e:Int) (w:aC),bY 95 pW Tryz.f95 (FX G) (LX G 95 pW Tryz.f95) ((o,()),(aF s,()))=some ((e,()),(w,()))→FX G 95 pW ((o,()),(aF s,()))=some ((e,()),(w,())):=fun e w a =>
    ar (fn:=Tryz.f95) (hG _ _ rfl) (by kernel_rfl) (by kernel_rfl) a
  unfold kE
  cases hf:aR s.1.1 (aS o) with
  | none =>
    refine ⟨13,aF s,start _ _ ((Xb _ _ _).trans ?_),?_⟩
    · refine aa (oQ hG (aF s) (aS o) h.d.sv (by show s.1.1.length≤_;omega)) ?_
      exact aY ((fa (l:=s.1.1) h.d.sv).trans (by rw [hf])) rfl
    · rw [show bh s.1 (aS o)=none from hf];rfl
  | some v =>
  have hfs:(aR s.1.1 (aS o)).isSome=true:=by rw [hf];rfl
  have hv:=fW hf
  have YU:=j7 hf
  have mr:=cX h.d.sv hf
  have aH:=(List.getElem?_eq_some_iff.1 mr).1
  have hgr:=h.d.rw
  have go:∀(e:Int) (w:aC),(cond ((((List.length v.2.1):Nat):Int) != (2:Int)) (some (((14:Int),()),(aF s,()))) _=some ((e,()),(w,())))→FX G 95 pW ((o,()),(aF s,()))=some ((e,()),(w,())):=fun e w rest=>by
    refine start _ _ ((Xb _ _ _).trans ?_)
    refine aa (oQ hG (aF s) (aS o) h.d.sv (by show s.1.1.length≤_;omega)) ?_
    refine aY ((fa (l:=s.1.1) h.d.sv).trans hfs) (ag rfl ?_)
    refine ae (dv (eC _) (aX aH)) (aa mr ?_)
    exact rest
  rw [show bh s.1 (aS o)=some v from hf]
  by_cases ss:v.2.1.length=2
  case neg =>
    refine ⟨14,aF s,go _ _ (ae (by rw [bne_iff_ne];omega) rfl),?_⟩
    show fO 14 (aF s)=(match v.2.1 with | [r0,r1]=>jL s o r0 r1 | _=>(zS,(14,())))
    split
    · rename_i hr;rw [hr] at ss;exact absurd rfl ss
    · rfl
  obtain ⟨r0,r1,hr⟩:∃r0 r1,v.2.1=[r0,r1]:=by
    match hq:v.2.1,ss with
    | [a,b],_=>exact ⟨a,b,rfl⟩
  have Ct:(((List.length v.2.1:Nat):Int) != (2:Int))=false:=by rw [ss];rfl
  have g0:aV v.2.1 (0:Int)=some r0:=by rw [hr];rfl
  have g1:aV v.2.1 (1:Int)=some r1:=by rw [hr];rfl
  show ∃(e:Int) (w:aC),FX G 95 pW ((o,()),(aF s,()))=some ((e,()),(w,()))∧fO e w=(match v.2.1 with | [r0,r1]=>jL s o r0 r1 | _=>(zS,(14,())))
  rw [hr]
  show ∃(e:Int) (w:aC),FX G 95 pW ((o,()),(aF s,()))=some ((e,()),(w,()))∧fO e w=jL s o r0 r1
  unfold jL
  by_cases VQ:r0.1=r1.1
  · refine ⟨14,aF s,go _ _ (ag Ct (aa g0 (aa g1 (ae ((iY r0.1 r1.1).trans (decide_eq_true VQ)) rfl)))),?_⟩
    rw [if_pos VQ];rfl
  rw [if_neg VQ]
  have b01:=(iY r0.1 r1.1).trans (decide_eq_false VQ)
  have tail:∀a b:ab,v.2.1.Perm [a,b]→a.1≠b.1→((FX G 122 m0 ((b,()),())).bind fun (y7:((ab×Unit)×Unit)) =>
        cond (iZ s.1.1 ((bC s.1.1 (aS o):Nat):Int) (IntKind.wrap .i64 (((bC s.1.1 (aS o):Nat):Int)+(1:Int))))
         ((FX G 118 lq (((y7.1.1.1,y7.1.1.2),()),(((c8 s.1.1 ((bC s.1.1 (aS o):Nat):Int) (IntKind.wrap .i64 (((bC s.1.1 (aS o):Nat):Int)+(1:Int)))),(s.1.2,(s.2,()))),()))).bind fun (y8:(((Option ((Fin 1)×Nat))×Unit)×(aC×Unit))) =>
         pf y8.1.1
          (none) fun (p9:((Fin 1)×Nat)) =>
         cond (p9.1.val==0)
          (((y8.2.1.1)[p9.2]?).bind fun (oq:ah) =>
          (FX G 121 rN ((oq.2.1,((y7.1.1.1,y7.1.1.2),(a,()))),())).bind fun (kz:(((List ab)×Unit)×Unit)) =>
          ((y8.2.1.1)[p9.2]?).bind fun (lM:ah) =>
          (FX G 115 l6 ((b.1,()),(((List.set y8.2.1.1 p9.2 (lM.1,(kz.1.1,lM.2.2))),(y8.2.1.2.1,y8.2.1.2.2)),()))).bind fun (kA:((Int×(Bool×Unit))×(aC×Unit))) =>
          cond (iZ kA.2.1.2.1 kA.1.1 (IntKind.wrap .i64 (kA.1.1+(1:Int))))
           (LX G 95 pW Tryz.f95 mz (aP Tryz.prog 95 0) (((0:Int),()),(((kA.2.1.1,((c8 kA.2.1.2.1 kA.1.1 (IntKind.wrap .i64 (kA.1.1+(1:Int)))),kA.2.1.2.2)),((a,()),((b,()),(((y7.1.1.1,y7.1.1.2),()),())))),())))
           (none))
          (none))
         (none))=some (((0:Int),()),(((IB s o a b).1,((IB s o a b).2,(Gv s.2 a b,()))),())):=by
    intro a b hp Bm
    obtain ⟨p,q,h1,_,h2,_⟩:=sW h.d.sv hv
    have pd:(aw s.1.1).Perm (a::b::aw (p++q)):=by
      have:=(jA p q v).trans (List.Perm.append_right _ hp)
      rw [←h1] at this;exact this
    have J5:dC s.1.1 (aS o)=p++q:=by rw [←YU];exact h2
    have LK:bu s.1 (aS o) zI=(p++q,s.1.2):=by unfold bu;rw [J5,xX h.d.ge]
    have Ex:=pd.nodup_iff.1 hgr.n
    have hbm:b∈ends s.1.2:=h.d.pd.mem_iff.1 (pd.mem_iff.2 (by simp))
    obtain ⟨e,he,WA,yN⟩:=eV.1 hbm
    have DF:(bf s.1.2 b.1).isSome=true:=by
      unfold bf;rw [List.find?_isSome];exact ⟨e,he,by simpa using WA⟩
    obtain ⟨_,ho⟩:=q7 yN
    have UM:aq b∈aw (p++q):=by
      have h3:aq b∈aw s.1.1:=h.d.mF (s:=(aq b).2) DF (by rcases ho with ⟨_,k⟩ | ⟨_,k⟩<;>omega)
      rcases List.mem_cons.1 (pd.mem_iff.1 h3) with k | k
      · exact absurd (congrArg Prod.fst k) (fun k=>Bm k.symm)
      rcases List.mem_cons.1 k with k | k
      · have:=congrArg Prod.snd k;omega
      · exact k
    have RD:Rw (p++q):=⟨by rw [←h2];exact ov h.d.sv,(List.nodup_cons.1 (List.nodup_cons.1 Ex).2).2⟩
    have br:∀u∈p++q,u∈s.1.1:=fun u hu=>by
      rw [h1]
      rcases List.mem_append.1 hu with k | k
      · exact List.mem_append_left _ k
      · exact List.mem_append_right _ (List.mem_cons_of_mem _ k)
    have Ey:Sv (p++q):=⟨by
      have:=hs.n;rw [h1] at this;simp at this ⊢;omega,fun u hu=>hs.r u (br u hu)⟩
    obtain ⟨dk1,dk2⟩:=Pn h.d.sv hfs (by omega)
    rw [J5] at dk2
    obtain ⟨k,u,hk,hxu,hu⟩:=qk UM
    have e1:(p++q).set k (u.1,(je u.2.1 (aq b) a,u.2.2))=(aD (p++q,s.1.2) (aq b) a).1:=GL RD hk hxu _ s.1.2
    have Mn:∀w∈(aD (p++q,s.1.2) (aq b) a).1,GV w:=sX (d:=(p++q,s.1.2)) (fun w hw=>h.d.gv w (br w hw)) _ _
    have eD:IB s o a b=((aD (p++q,s.1.2) (aq b) a).1,cM s.1.2 b.1):=by
      unfold IB
      rw [LK]
      unfold bu
      rw [uA Mn];rfl
    have ga:=jF h.g h.n ((b.1,0),oZ a b 0)
    rw [eD]
    refine aa (GJ (hG _ _ rfl) b yN) ?_
    refine ae dk1 ?_
    have r1:∀l1:List ah,l1=p++q→((FX G 118 lq ((aq b,()),((l1,(s.1.2,(s.2,()))),()))).bind fun (y8:(((Option ((Fin 1)×Nat))×Unit)×(aC×Unit))) =>
         pf y8.1.1
          (none) fun (p9:((Fin 1)×Nat)) =>
         cond (p9.1.val==0)
          (((y8.2.1.1)[p9.2]?).bind fun (oq:ah) =>
          (FX G 121 rN ((oq.2.1,(aq b,(a,()))),())).bind fun (kz:(((List ab)×Unit)×Unit)) =>
          ((y8.2.1.1)[p9.2]?).bind fun (lM:ah) =>
          (FX G 115 l6 ((b.1,()),(((List.set y8.2.1.1 p9.2 (lM.1,(kz.1.1,lM.2.2))),(y8.2.1.2.1,y8.2.1.2.2)),()))).bind fun (kA:((Int×(Bool×Unit))×(aC×Unit))) =>
          cond (iZ kA.2.1.2.1 kA.1.1 (IntKind.wrap .i64 (kA.1.1+(1:Int))))
           (LX G 95 pW Tryz.f95 mz (aP Tryz.prog 95 0) (((0:Int),()),(((kA.2.1.1,((c8 kA.2.1.2.1 kA.1.1 (IntKind.wrap .i64 (kA.1.1+(1:Int)))),kA.2.1.2.2)),((a,()),((b,()),((aq b,()),())))),())))
           (none))
          (none))=some (((0:Int),()),(((aD (p++q,s.1.2) (aq b) a).1,(cM s.1.2 b.1,(Gv s.2 a b,()))),())):=by
      intro l1 hl1
      subst hl1
      refine aa (CV hG (p++q,(s.1.2,(s.2,()))) (aq b) RD Ey.n Ey.r hk hxu) ?_
      refine rT rfl (ae rfl (aa hk ?_))
      refine aa (Tf hG u.2.1 (aq b) a (Ey.r u hu)) ?_
      refine aa hk ?_
      have r2:∀l2:List ah,l2=(aD (p++q,s.1.2) (aq b) a).1→((FX G 115 l6 ((b.1,()),((l2,(s.1.2,(s.2,()))),()))).bind fun (kA:((Int×(Bool×Unit))×(aC×Unit))) =>
          cond (iZ kA.2.1.2.1 kA.1.1 (IntKind.wrap .i64 (kA.1.1+(1:Int))))
           (LX G 95 pW Tryz.f95 mz (aP Tryz.prog 95 0) (((0:Int),()),(((kA.2.1.1,((c8 kA.2.1.2.1 kA.1.1 (IntKind.wrap .i64 (kA.1.1+(1:Int)))),kA.2.1.2.2)),((a,()),((b,()),((aq b,()),())))),())))
           (none))=some (((0:Int),()),(((aD (p++q,s.1.2) (aq b) a).1,(cM s.1.2 b.1,(Gv s.2 a b,()))),())):=by
        intro l2 ss
        subst ss
        refine aa (np hG ((aD (p++q,s.1.2) (aq b) a).1,(s.1.2,(s.2,()))) b.1 h.d.se (by show s.1.2.length≤_;omega)) ?_
        obtain ⟨ek1,ek2⟩:=GK h.d.se DF (by omega)
        refine ae ek1 ?_
        have r3:∀l3:List af,l3=cM s.1.2 b.1→(LX G 95 pW Tryz.f95 mz (aP Tryz.prog 95 0) (((0:Int),()),((((aD (p++q,s.1.2) (aq b) a).1,(l3,(s.2,()))),((a,()),((b,()),((aq b,()),())))),())))=some (((0:Int),()),(((aD (p++q,s.1.2) (aq b) a).1,(cM s.1.2 b.1,(Gv s.2 a b,()))),())):=by
          intro l3 hl3
          subst hl3
          have eb:b=(b.1,b.2):=rfl
          have eo:aq b=(b.1,(aq b).2):=rfl
          rcases ho with ⟨BP,MI⟩ | ⟨Ra,ho0⟩
          · rw [BP] at eb;rw [MI] at eo
            have t0:oZ a b 0=zD:=by unfold oZ;rw [if_neg (by rw [eo];simp)]
            have t1:oZ a b 1=a:=by unfold oZ;rw [if_pos eo.symm]
            rw [t0,←eb] at ga
            have eG:Gv s.2 a b=bK (bK s.2 (b,zD)) (aq b,a):=by unfold Gv;rw [t0,t1,←eb,←eo]
            rw [eG]
            refine au (j:=0) (by kernel_rfl) ((vz _ _ _).trans ?_)
            refine ae rfl (ae (by show (b.2==(0:Int))=true;simp [BP]) ?_)
            refine aa (CU hG ((aD (p++q,s.1.2) (aq b) a).1,(cM s.1.2 b.1,(s.2,()))) b zD h.g (by show s.2.length≤_;omega)) ?_
            refine au (j:=0) (by kernel_rfl) ((vz _ _ _).trans ?_)
            refine ae rfl (ag (by show (b.2==(1:Int))=false;simp [BP]) ?_)
            refine aa (CU hG ((aD (p++q,s.1.2) (aq b) a).1,(cM s.1.2 b.1,(bK s.2 (b,zD),()))) (aq b) a ga.1 (by have:=ga.2;show (bK s.2 (b,zD)).length≤_;omega)) ?_
            refine au (j:=0) (by kernel_rfl) ((vz _ _ _).trans ?_)
            exact ag rfl rfl
          · rw [Ra] at eb;rw [ho0] at eo
            have t0:oZ a b 0=a:=by unfold oZ;rw [if_pos eo.symm]
            have t1:oZ a b 1=zD:=by unfold oZ;rw [if_neg (by rw [eo];simp)]
            rw [t0,←eo] at ga
            have eG:Gv s.2 a b=bK (bK s.2 (aq b,a)) (b,zD):=by unfold Gv;rw [t0,t1,←eb,←eo]
            rw [eG]
            refine au (j:=0) (by kernel_rfl) ((vz _ _ _).trans ?_)
            refine ae rfl (ag (by show (b.2==(0:Int))=false;simp [Ra]) ?_)
            refine aa (CU hG ((aD (p++q,s.1.2) (aq b) a).1,(cM s.1.2 b.1,(s.2,()))) (aq b) a h.g (by show s.2.length≤_;omega)) ?_
            refine au (j:=0) (by kernel_rfl) ((vz _ _ _).trans ?_)
            refine ae rfl (ae (by show (b.2==(1:Int))=true;simp [Ra]) ?_)
            refine aa (CU hG ((aD (p++q,s.1.2) (aq b) a).1,(cM s.1.2 b.1,(bK s.2 (aq b,a),()))) b zD ga.1 (by have:=ga.2;show (bK s.2 (aq b,a)).length≤_;omega)) ?_
            refine au (j:=0) (by kernel_rfl) ((vz _ _ _).trans ?_)
            exact ag rfl rfl
        exact r3 _ ek2
      exact r2 _ e1
    exact r1 _ dk2
  have bo:∀y:ab,((y.1.1==(aU o).1)&&(y.1.2==(aU o).2))=decide (y.1=aU o):=fun y=>iY y.1 (aU o)
  by_cases h0:r0.1=aU o
  · rw [if_pos h0]
    refine ⟨0,((IB s o r1 r0).1,((IB s o r1 r0).2,(Gv s.2 r1 r0,()))),go _ _ (ag Ct (aa g0 (aa g1 (ag b01 (aa g0 (aa g1 (ae ((bo r0).trans (decide_eq_true h0)) ?_))))))),rfl⟩
    refine aY ((bo r0).trans (decide_eq_true h0)) (ag rfl ?_)
    exact tail r1 r0 (by rw [hr];exact List.Perm.swap _ _ _) (fun k=>VQ k.symm)
  rw [if_neg h0]
  by_cases h1:r1.1=aU o
  · rw [if_pos h1]
    refine ⟨0,((IB s o r0 r1).1,((IB s o r0 r1).2,(Gv s.2 r0 r1,()))),go _ _ (ag Ct (aa g0 (aa g1 (ag b01 (aa g0 (aa g1 (ag ((bo r0).trans (decide_eq_false h0)) ?_))))))),rfl⟩
    refine aY ((bo r1).trans (decide_eq_true h1)) (ag rfl ?_)
    exact tail r0 r1 (by rw [hr]) VQ
  rw [if_neg h1]
  refine ⟨14,aF s,go _ _ (ag Ct (aa g0 (aa g1 (ag b01 (aa g0 (aa g1 (ag ((bo r0).trans (decide_eq_false h0)) ?_))))))),rfl⟩
  exact aY ((bo r1).trans (decide_eq_false h1)) (ae rfl rfl)
end Go.Vs
namespace Go.Vs
open Go.Proofs
theorem CW{row:List ab}(hn:row.Nodup){i j:Nat}{hi:i<row.length}{hj:j<row.length}(h:row[i]=row[j]):i=j:=by
 rcases Nat.lt_trichotomy i j with k | k | k
 ·exact absurd h (List.pairwise_iff_getElem.1 hn i j hi hj k)
 ·exact k
 ·exact absurd h.symm (List.pairwise_iff_getElem.1 hn j i hj hi k)
theorem CX{row:List ab}(hn:row.Nodup){i j:Nat}{x:ab}(hi:row[i]? = some x)(hj:row[j]? = some x):i=j:=by
 obtain ⟨h1,h2⟩:=List.getElem?_eq_some_iff.1 hi
 obtain ⟨h3,h4⟩:=List.getElem?_eq_some_iff.1 hj
 exact CW hn (h2.trans h4.symm)
theorem GM(row:List ab):∃j,j≤row.length∧cG row=Bo row j:=by
 by_cases h0:row.length=0
 ·have:row=[]:=by simpa using h0
  subst this;exact ⟨0,by simp,rfl⟩
 ·exact ⟨eU row row 0 0,Nat.le_of_lt (ot row row 0 0 (by omega) (by omega)),rfl⟩
theorem RE{row:List ab}(hn:row.Nodup){k:Nat}{x:ab}(hk:row[k]? = some x):idx x row 0=(k:Int):=by
 have:=IF (d:=x) (row:=row) (k:=k) (i:=0) hk (fun j hj he=>by have:=CX hn hk he;omega)
 omega
end Go.Vs
namespace Go.Vs
open Go.Proofs
variable {G:(f:FuncId)→(g:aJ)→Option (g.A→Option g.B)}
theorem LM(l:List ah)(x:ID):l.any (fun w=>decide (w.1=x))=(aR l x).isSome:=by
 rw [Bool.eq_iff_iff,List.any_eq_true];unfold aR;rw [List.find?_isSome]
theorem LN(l:List af)(x:ID):l.any (fun w=>decide (w.1=x))=(bf l x).isSome:=by
 rw [Bool.eq_iff_iff,List.any_eq_true];unfold bf;rw [List.find?_isSome]
theorem LO(s:StateT)(o:bB):fO (sS (aF s) o).1 (sS (aF s) o).2=vE s o:=by
 unfold sS vE Gt Ec
 rw [LM,LN]
 by_cases ho:mD o=true
 ·have hv:s.1.1.map (iB o)=s.1.1:=by
   conv=>rhs;rw [←List.map_id s.1.1]
   exact List.map_congr_left fun u hu=>by unfold iB;rw [if_neg (by rw [ho];simp)];rfl
  rw [if_pos ho,ho,hv]
  show fO (if (bf s.1.2 (aS o)).isSome=true then _ else _:Int×aC).1 (if (bf s.1.2 (aS o)).isSome=true then _ else _:Int×aC).2=_
  cases (bf s.1.2 (aS o)).isSome<;>rfl
 ·have mu:mD o=false:=by simpa using ho
  have he:s.1.2.map (jx o)=s.1.2:=by
   conv=>rhs;rw [←List.map_id s.1.2]
   exact List.map_congr_left fun u hu=>by unfold jx;rw [if_neg (by rw [mu];simp)];rfl
  rw [if_neg ho,mu,he]
  show fO (if (aR s.1.1 (aS o)).isSome=true then _ else _:Int×aC).1 (if (aR s.1.1 (aS o)).isSome=true then _ else _:Int×aC).2=_
  cases (aR s.1.1 (aS o)).isSome<;>rfl
theorem Po(hG:HG G)(w:aC)(o:bB)(hk:7≤o.1)(hv:bW w.1)(he:c6 w.2.1)(Ta:w.1.length≤50000000)(hle:w.2.1.length≤50000000) :
  FX G 66 xd ((o,()),(w,()))=some (((sS w o).1,()),((sS w o).2,())):=by
 refine ar (fn:=Tryz.f66) (hG _ _ rfl) (by kernel_rfl) (by kernel_rfl) ((DX _ _ _).trans ?_)
 have kn:∀k:Int,k<7→(o.1==k)=false:=fun k nE=>wX (by omega)
 refine ag (kn 1 (by omega)) (ag (kn 2 (by omega)) (ag (kn 3 (by omega)) (ag (kn 4 (by omega)) (ag (kn 5 (by omega)) (ag (kn 6 (by omega)) ?_)))))
 exact aa (ad4 hG w o hv he Ta hle) rfl
def opL(x:ID)(e:Bool)(t:ByteArray):bB:=(7,(x,(zI,(zI,(zC,(zC,(e,(t,0))))))))
def opA(x:ID)(e:Bool)(n:Int):bB:=(8,(x,(zI,(zI,(zC,(zC,(e,(e0,n))))))))
structure Lay(s t:StateT):Prop where
 v:bW t.1.1
 e:c6 t.1.2
 sm:Sm t.1
 g:t.2.length≤50000000
end Go.Vs
namespace Go.Vs
open Go.Proofs
variable {G:(f:FuncId)→(g:aJ)→Option (g.A→Option g.B)}
theorem GN(l:List af):(ends l).length=2 * l.length:=by
 induction l with
 | nil=>rfl
 | cons e r ih=>rw [jB];simp [ih];omega
theorem RF{l:List ah}{v:ah}(h:v∈l):v.2.1.length≤(aw l).length:=by
 obtain ⟨a,b,rfl⟩:=List.append_of_mem h
 rw [nr,jz];simp;omega
theorem Wf.vQ{d:ai}(h:Wf d):∀v∈d.1,v.2.1.length≤80:=fun v hv=>by
 have h1:=RF hv
 have h2:=h.pd.length_eq
 have h3:=h.ne
 rw [GN] at h2;omega
theorem Wf.sm{d:ai}(h:Wf d):Sm d:=⟨by have:=h.nv;omega,by have:=h.ne;omega,fun v hv=>by have:=h.vQ v hv;omega⟩
theorem Wf.small{d:ai}(h:Wf d):Sv d.1:=⟨by have:=h.nv;omega,fun v hv=>by have:=h.vQ v hv;omega⟩
theorem LP(s:StateT)(o:bB):fO (oR (aF s) (aS o,([],(e0,0)))).1 (oR (aF s) (aS o,([],(e0,0)))).2=rS s o:=by
 by_cases hh:(aR s.1.1 (aS o)).isSome=true
 ·have a:oR (aF s) (aS o,([],(e0,0)))=(12,aF s):=if_pos hh
  have b:rS s o=(zS,(12,())):=if_pos hh
  rw [a,b];rfl
 by_cases h:24≤s.1.1.length
 ·have a:oR (aF s) (aS o,([],(e0,0)))=(3,aF s):=(if_neg hh).trans (if_pos h)
  have b:rS s o=(zS,(3,())):=(if_neg hh).trans (if_pos h)
  rw [a,b];rfl
 ·have a:oR (aF s) (aS o,([],(e0,0)))=(0,(dR (aS o,([],(e0,0))) (aF s).1,(aF s).2)):=(if_neg hh).trans (if_neg h)
  have b:rS s o=(((dR (aS o,([],(e0,0))) s.1.1,s.1.2),s.2),(0,())):=(if_neg hh).trans (if_neg h)
  rw [a,b];rfl
theorem LQ{s:StateT}(h:hP s)(o:bB):fO (wW (aF s) (aS o)).1 (wW (aF s) (aS o)).2=wV s o:=by
 unfold wW wV bh
 show fO (match aR s.1.1 (aS o) with | none=>(13,aF s) | some v=>if 0<v.2.1.length then (14,aF s) else (0,(dC s.1.1 (aS o),(s.1.2,(s.2,())))):Int×aC).1 (match aR s.1.1 (aS o) with | none=>(13,aF s) | some v=>if 0<v.2.1.length then (14,aF s) else (0,(dC s.1.1 (aS o),(s.1.2,(s.2,())))):Int×aC).2=_
 cases aR s.1.1 (aS o) with
 | none=>rfl
 | some v =>
  simp only
  by_cases hl:0<v.2.1.length
  ·rw [if_pos hl,if_pos hl];rfl
  ·rw [if_neg hl,if_neg hl]
   unfold bu
   rw [xX h.d.ge];rfl
def J6(s:StateT)(o:bB):StateT×(Int×Unit) :=
 if o.1=1 then rS s o else if o.1=2 then wV s o else if o.1=3 then rR s o else if o.1=4 then Ee s o else if o.1=5 then lB s o else if o.1=6 then kE s o else vE s o
theorem LR(s:StateT)(o:bB):qi s o=if cx o≠0 then (zS,(cx o,())) else J6 s o:=rfl
theorem Pp(hG:HG G)(s:StateT)(o:bB)(h:hP s)(hm:cx o=0)(h3:o.1=3→∃(e:Int) (w:aC),FX G 92 om ((o,()),(aF s,()))=some ((e,()),(w,()))∧fO e w=rR s o) :
  ∃(e:Int) (w:aC),FX G 66 xd ((o,()),(aF s,()))=some ((e,()),(w,()))∧fO e w=J6 s o:=by
 have hk:=AO hm
 have RG:=h.d.small
 have QB:=h.d.nv;have bj:=h.d.ne
 have start:∀(e:Int) (w:aC),bY 66 xd Tryz.f66 (FX G) (LX G 66 xd Tryz.f66) ((o,()),(aF s,()))=some ((e,()),(w,()))→FX G 66 xd ((o,()),(aF s,()))=some ((e,()),(w,())):=fun e w a =>
  ar (fn:=Tryz.f66) (hG _ _ rfl) (by kernel_rfl) (by kernel_rfl) a
 unfold J6
 by_cases h1:o.1=1
 ·rw [if_pos h1]
  refine ⟨_,_,start _ _ ((DX _ _ _).trans (ae (EA h1) (aa (Rv hG (aF s) (aS o,([],(e0,0))) h.d.sv RG.n) rfl))),?_⟩
  exact LP s o
 rw [if_neg h1]
 by_cases h2:o.1=2
 ·rw [if_pos h2]
  refine ⟨_,_,start _ _ ((DX _ _ _).trans (ag (wX h1) (ae (EA h2) (aa (YJ hG (aF s) o h.d.sv RG.n) rfl)))),?_⟩
  exact LQ h o
 rw [if_neg h2]
 by_cases Mm:o.1=3
 ·rw [if_pos Mm]
  obtain ⟨e,w,a,b⟩:=h3 Mm
  exact ⟨e,w,start _ _ ((DX _ _ _).trans (ag (wX h1) (ag (wX h2) (ae (EA Mm) (aa a rfl))))),b⟩
 rw [if_neg Mm]
 by_cases YX:o.1=4
 ·rw [if_pos YX]
  obtain ⟨e,w,a,b⟩:=ad7 hG s o h RG
  exact ⟨e,w,start _ _ ((DX _ _ _).trans (ag (wX h1) (ag (wX h2) (ag (wX Mm) (ae (EA YX) (aa a rfl)))))),b⟩
 rw [if_neg YX]
 by_cases UO:o.1=5
 ·rw [if_pos UO]
  obtain ⟨e,w,a,b⟩:=aeb hG s o h RG hm UO
  exact ⟨e,w,start _ _ ((DX _ _ _).trans (ag (wX h1) (ag (wX h2) (ag (wX Mm) (ag (wX YX) (ae (EA UO) (aa a rfl))))))),b⟩
 rw [if_neg UO]
 by_cases hk6:o.1=6
 ·rw [if_pos hk6]
  obtain ⟨e,w,a,b⟩:=aeh hG s o h RG
  exact ⟨e,w,start _ _ ((DX _ _ _).trans (ag (wX h1) (ag (wX h2) (ag (wX Mm) (ag (wX YX) (ag (wX UO) (ae (EA hk6) (aa a rfl)))))))),b⟩
 rw [if_neg hk6]
 refine ⟨_,_,Po hG (aF s) o (by omega) h.d.sv h.d.se RG.n (by show s.1.2.length≤_;omega),?_⟩
 exact LO s o
end Go.Vs
namespace Go.Vs
open Go.Proofs
variable {G:(f:FuncId)→(g:aJ)→Option (g.A→Option g.B)}
def sY(G:(f:FuncId)→(g:aJ)→Option (g.A→Option g.B))(o:bB):Prop:=∀s,hP s→cx o=0→o.1=3→∃(e:Int) (w:aC),FX G 92 om ((o,()),(aF s,()))=some ((e,()),(w,()))∧fO e w=rR s o
theorem Pq{s:StateT}{o:bB}(hm:cx o=0):J6 s o=qi s o:=by rw [LR,if_neg (by simp [hm])]
theorem ael(hG:HG G)(l:List bB)(hl:l.length≤1073741824)(hm:∀o∈l,cx o=0)(h3:∀o∈l,sY G o):∀(n i:Nat) (s:StateT),i+n=l.length→hP s →
  LX G 44 BL Tryz.f44 Aa (aP Tryz.prog 44 0) ((l,(((l.length:Nat):Int),((i:Int),()))),((zW,(aF s,())),()))=some (Lv (l.drop i) s,()):=by
 intro n
 induction n with
 | zero =>
  intro i s hi hw
  refine au (j:=0) (by kernel_rfl) ((DV _ _ _).trans ?_)
  refine ag (decide_eq_false (show ¬((i:Int)<((l.length:Nat):Int)) by omega)) ?_
  rw [List.drop_eq_nil_of_le (by omega)];rfl
 | succ n ih =>
  intro i s hi hw
  have aH:i<l.length:=by omega
  have ho:=hm l[i] (List.getElem_mem aH)
  obtain ⟨e,w,h1,h2⟩:=Pp hG s l[i] hw ho (h3 _ (List.getElem_mem aH) s hw ho)
  rw [Pq ho] at h2
  refine au (j:=0) (by kernel_rfl) ((DV _ _ _).trans ?_)
  refine ae (aX aH) (aa (aK (List.getElem?_eq_getElem aH)) ?_)
  refine aa h1 ?_
  rw [List.drop_eq_getElem_cons aH,Lv]
  have Dl:=hw.one l[i]
  by_cases he:e=0
  ·have e1:fO e w=(xU w,(0,())):=if_neg (by simp [he])
   rw [e1] at h2
   rw [←h2] at Dl ⊢
   rw [if_neg (by simp)]
   refine ag (show (e != 0)=false by simp [he]) ?_
   have:=ih (i+1) (xU w) (by omega) Dl
   rw [←aI aH hl] at this
   exact this
  ·have e1:fO e w=(zS,(e,())):=if_pos he
   rw [e1] at h2
   rw [←h2,if_pos he]
   exact ae (show (e != 0)=true by simp [he]) rfl
theorem UQ(hG:HG G)(s:StateT)(l:List bB)(hw:hP s)(hl:l.length≤1073741824)(hm:∀o∈l,cx o=0)(h3:∀o∈l,sY G o):FX G 44 BL ((s,l,()),())=some (Lv l s,()):=by
 have hn:=hw.n
 refine ar (fn:=Tryz.f44) (hG _ _ rfl) (by kernel_rfl) (by kernel_rfl) ((WY _ _ _).trans ?_)
 refine aa (UF hG s.1 hw.d.sm) ?_
 refine aa (Ru (hG _ _ rfl) s.2 (by omega)) ?_
 have:=ael hG l hl hm h3 l.length 0 s (by omega) hw
 rw [List.drop_zero] at this
 exact this
theorem GO(l:List bB)(h:j5 l=0):∀o∈l,cx o=0:=by
 induction l with
 | nil=>intro o ho;simp at ho
 | cons o r ih =>
  rw [j5] at h
  by_cases ho:cx o=0
  ·rw [if_neg (fun k=>k ho)] at h
   intro p hp
   rcases List.mem_cons.1 hp with e | hp
   ·rw [e];exact ho
   ·exact ih h p hp
  ·rw [if_pos ho] at h;exact absurd h ho
theorem IK{l:List bB}(h:fq l=0):∀o∈l,cx o=0:=by
 unfold fq at h
 split at h
 ·exact GO l h
 ·cases h
theorem YY(hG:HG G)(s:StateT)(l:List bB)(hw:hP s)(hl:l.length≤1073741824)(hf:∀o∈l,Fit o)(h3:∀o∈l,sY G o):FX G 30 Ft ((s,l,()),())=some (fi s l,()):=by
 refine ar (fn:=Tryz.f30) (hG _ _ rfl) (by kernel_rfl) (by kernel_rfl) ((WV _ _ _).trans ?_)
 refine aa (ad3 hG l hl hf) ?_
 unfold fi
 by_cases hm:fq l=0
 ·rw [if_neg (by simp [hm])]
  refine ag (show (fq l != 0)=false by simp [hm]) ?_
  exact aa (UQ hG s l hw hl (IK hm) h3) rfl
 ·rw [if_pos hm]
  exact ae (show (fq l != 0)=true by simp [hm]) rfl
theorem aem(hG:HG G)(s:StateT)(l:List bB)(hw:hP s)(hl:l.length≤1073741824)(hf:∀o∈l,Fit o)(h3:∀o∈l,sY G o):FX G 36 NB ((s,l,()),())=some ((rq s l,()),()):=by
 have hn:=hw.n
 refine ar (fn:=Tryz.f36) (hG _ _ rfl) (by kernel_rfl) (by kernel_rfl) ((ace _ _ _).trans ?_)
 refine aa (YY hG s l hw hl hf h3) ?_
 unfold rq
 by_cases he:(fi s l).2.1=0
 ·rw [if_neg (by simp [he])]
  exact ag (show ((fi s l).2.1 != 0)=false by simp [he]) rfl
 ·rw [if_pos he]
  refine ae (show ((fi s l).2.1 != 0)=true by simp [he]) ?_
  refine aa (UF hG s.1 hw.d.sm) ?_
  exact aa (Ru (hG _ _ rfl) s.2 (by omega)) rfl
end Go.Vs
