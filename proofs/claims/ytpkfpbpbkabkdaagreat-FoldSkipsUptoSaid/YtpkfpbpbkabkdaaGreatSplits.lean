/- Edges cut and split, vertices smoothed: what the program computes. -/
import Derived.Test.YtpkfpbpbkabkdaaGreatFormed
import Derived.Test.YtpkfpbpbkabkdaaGreatTop
set_option linter.unusedVariables false
set_option linter.unusedSimpArgs false
namespace Go.Vs
open Go.Proofs
variable {G:(f:FuncId)→(g:aL)→Option (g.A→Option g.B)}
theorem QV(hG:HG G)(v:aG)(x:ab):FX G 232 Bp ((v,x,()),())=some ((qS v.1 x,()),()):=by
 refine aJ (fn:=Tryz.f232) (hG _ _ rfl) (by kernel_rfl) (by kernel_rfl) ((U3 _ _ _).trans ?_)
 exact aa (QR hG v.1 x) rfl
def cY(l:List aG)(x:ab):Nat:=l.countP fun v=>ke v.1 x
theorem CY(l:List aG)(x:ab):cY l x≤l.length:=List.countP_le_length
theorem vd{l:List aG}{x:ab}(h:∀v∈l,ke v.1 x=false):cY l x=0:=by
 unfold cY;rw[List.countP_eq_zero];intro v hv;simp[h v hv]
theorem BH{x:ab}:∀{l:List aG},g6 l→∀(k:Nat) (v:aG),l[k]? = some v→(ke v.1 x=true↔k<cY l x)
 |[],_,k,v,h=>by simp at h
 |w::r,hs,k,v,h=>by
  have hw:∀{u:aG},u∈r→ke w.1 u.1=true:=fun {u} hu=>List.rel_of_pairwise_cons hs hu
  have hr:g6 r:=hs.of_cons
  by_cases aE:ke w.1 x=true
  ·have e:cY (w::r) x=cY r x+1:=by unfold cY;rw[List.countP_cons_of_pos (by simpa using aE)]
   cases k with
   |zero=>simp at h;subst h;simp[aE,e]
   |succ k=>have:=BH (x:=x) hr k v (by simpa using h);rw[this,e];omega
  ·have hn:∀u∈w::r,ke u.1 x=false:=fun u hu=>by
    rcases List.mem_cons.1 hu with rfl|hu
    ·simpa using aE
    ·rw[Bool.eq_false_iff];intro h2;exact aE (fJ (hw hu) h2)
   rw[vd hn,hn v (List.mem_of_getElem? h)]
   simp
theorem M3(hG:HG G)(l:List aG)(x:ab)(hs:g6 l)(hl:l.length≤50000000):∀(n i j:Nat),j-i≤n→i≤cY l x→cY l x≤j→j≤l.length →
  LX G 233231 iy Tryz.f231 gK (bA Tryz.prog 231 0) ((l,(((l.length:Nat):Int),((i:Int),((j:Int),())))),(((x,()),()),()))=some (((((cY l x:Nat):Int),(decide ((l[cY l x]?).map (·.1)=some x),())):Int×(Bool×Unit)),()):=by
 have sG:=CY l x
 have fin:∀(i j:Nat),¬(i<j)→i≤cY l x→cY l x≤j→LX G 233231 iy Tryz.f231 gK (bA Tryz.prog 231 0) ((l,(((l.length:Nat):Int),((i:Int),((j:Int),())))),(((x,()),()),()))=some (((((cY l x:Nat):Int),(decide ((l[cY l x]?).map (·.1)=some x),())):Int×(Bool×Unit)),()):=fun i j xL h1 h2=>by
  have hi:i=cY l x:=by omega
  subst hi
  refine aK (j:=0) (by kernel_rfl) ((yR _ _ _).trans ?_)
  refine af (decide_eq_false (show ¬(((cY l x:Nat):Int)<(j:Int)) by omega)) ?_
  by_cases hc:cY l x<l.length
  ·have hx:l[cY l x]? = some l[cY l x]:=List.getElem?_eq_getElem hc
   refine ae (bG hc) ?_
   refine aa (bN hx) ?_
   refine aa (QV hG l[cY l x] x) ?_
   refine congrArg (fun b:Bool=>some ((((cY l x:Nat):Int),(b,())),())) ?_
   rw[hx]
   unfold qS
   by_cases he:l[cY l x].1=x
   ·simp[he]
   ·simp[he];split<;>simp
  ·refine af (decide_eq_false (show ¬(((cY l x:Nat):Int)<((l.length:Nat):Int)) by omega)) ?_
   refine congrArg (fun b:Bool=>some ((((cY l x:Nat):Int),(b,())),())) ?_
   rw[List.getElem?_eq_none (by omega)];simp
 intro n
 induction n with
 |zero=>intro i j xL h1 h2 h3;exact fin i j (by omega) h1 h2
 |succ n ih =>
  intro i j xL h1 h2 h3
  by_cases aE:i<j
  case neg=>exact fin i j aE h1 h2
  refine aK (j:=0) (by kernel_rfl) ((yR _ _ _).trans ?_)
  refine ae (decide_eq_true (show((i:Int)<(j:Int)) by omega)) ?_
  refine af rfl ?_
  have hm:=G3 (i:=i) (j:=j) (by omega) (by omega)
  have hh:(i+j) / 2<l.length:=by omega
  have hx:l[(i+j) / 2]? = some l[(i+j) / 2]:=List.getElem?_eq_getElem hh
  have mH:=BH (x:=x) hs ((i+j) / 2) _ hx
  refine aa (show cQ l (IntKind.wrap .i64 (j8 .u64 (IntKind.wrap .u64 (IntKind.wrap .i64 ((i:Int)+(j:Int)))) (1:Int)))=some l[(i+j) / 2] by rw[hm];exact bN hx) ?_
  refine aa (QV hG l[(i+j) / 2] x) ?_
  by_cases ho:ke l[(i+j) / 2].1 x=true
  ·refine ae (decide_eq_true ((w4 _ _).2 ho)) ?_
   have hc:=mH.1 ho
   have hw:IntKind.wrap .i64 (IntKind.wrap .i64 (j8 .u64 (IntKind.wrap .u64 (IntKind.wrap .i64 ((i:Int)+(j:Int)))) (1:Int))+1)=(((i+j) / 2+1:Nat):Int):=by
    rw[hm];exact aP hh (by omega)
   have:=ih ((i+j) / 2+1) j (by omega) (by omega) h2 h3
   rw[←hw]at this
   exact this
  ·refine af (decide_eq_false (fun h=>ho ((w4 _ _).1 h))) ?_
   have hc:¬(i+j) / 2<cY l x:=fun h=>ho (mH.2 h)
   have:=ih i ((i+j) / 2) (by omega) h1 (by omega) (by omega)
   rw[←hm]at this
   exact this
theorem M4(hG:HG G)(l:List aG)(x:ab)(hs:g6 l)(hl:l.length≤50000000) :
  FX G 233231 iy ((l,x,()),())=some (((((cY l x:Nat):Int),(decide ((l[cY l x]?).map (·.1)=some x),())):Int×(Bool×Unit)),()):=by
 refine aJ (fn:=Tryz.f231) (hG _ _ rfl) (by kernel_rfl) (by kernel_rfl) ((Mk _ _ _).trans ?_)
 exact M3 hG l x hs hl l.length 0 l.length (by omega) (by omega) (CY l x) (Nat.le_refl _)
theorem E0(g:aG):∀{l:List aG},g6 l→oM g l=if(l[cY l g.1]?).map (·.1)=some g.1 then l.set (cY l g.1) g else l.take (cY l g.1)++(g::l.drop (cY l g.1))
 |[],_=>rfl
 |w::r,hs=>by
  have hw:∀{u:aG},u∈r→ke w.1 u.1=true:=fun {u} hu=>List.rel_of_pairwise_cons hs hu
  have hr:g6 r:=List.Pairwise.of_cons hs
  by_cases aE:ke w.1 g.1=true
  ·have e:cY (w::r) g.1=cY r g.1+1:=by unfold cY;rw[List.countP_cons_of_pos (by simpa using aE)]
   have aV:w.1≠g.1:=fun k=>by rw[k,dk]at aE;cases aE
   have pj:¬qS g.1 w.1≤0:=fun k=>by
    rcases od.1 k with k|k
    ·exact aV k.symm
    ·have:=fJ aE k;rw[dk]at this;cases this
   have ih:=E0 g hr
   rw[e,oM,if_neg pj,if_pos aV,ih]
   simp only[List.getElem?_cons_succ,List.set_cons_succ,List.take_succ_cons,List.drop_succ_cons,List.cons_append]
   split<;>rfl
  ·have hn:∀u∈w::r,ke u.1 g.1=false:=fun u hu=>by
    rcases List.mem_cons.1 hu with rfl|hu
    ·simpa using aE
    ·rw[Bool.eq_false_iff];intro h2;exact aE (fJ (hw hu) h2)
   rw[vd hn]
   by_cases he:w.1=g.1
   ·have Sa:qS g.1 w.1≤0:=od.2 (.inl he.symm)
    have h1:qT g (w::r)=r:=by
     have:qT g (w::r)=qT g r:=by unfold qT;rw[List.filter_cons_of_neg (by simp[he])]
     rw[this]
     exact qI (fun q hq k=>by have:=hw hq;rw[k,he,dk]at this;cases this)
    rw[oM,if_pos Sa,h1,if_pos (by simp[he])];rfl
   ·have FM:ke g.1 w.1=true:=u7 (by simpa using aE) he
    have Sa:qS g.1 w.1≤0:=od.2 (.inr FM)
    have h1:qT g (w::r)=w::r:=qI (fun q hq k=>by
     rcases List.mem_cons.1 hq with rfl|hq
     ·exact he k
     ·have:=fJ FM (hw hq);rw[k,dk]at this;cases this)
    rw[oM,if_pos Sa,h1,if_neg (by simp[he])];rfl
theorem BI{x:ab}:∀{l:List aG},g6 l→(la l x).isSome=decide ((l[cY l x]?).map (·.1)=some x)
 |[],_=>rfl
 |w::r,hs=>by
  have hw:∀{u:aG},u∈r→ke w.1 u.1=true:=fun {u} hu=>List.rel_of_pairwise_cons hs hu
  have hr:g6 r:=List.Pairwise.of_cons hs
  rw[og]
  by_cases aE:ke w.1 x=true
  ·have e:cY (w::r) x=cY r x+1:=by unfold cY;rw[List.countP_cons_of_pos (by simpa using aE)]
   have aV:w.1≠x:=fun k=>by rw[k,dk]at aE;cases aE
   rw[e,if_neg aV,BI hr,List.getElem?_cons_succ]
  ·have hn:∀u∈w::r,ke u.1 x=false:=fun u hu=>by
    rcases List.mem_cons.1 hu with rfl|hu
    ·simpa using aE
    ·rw[Bool.eq_false_iff];intro h2;exact aE (fJ (hw hu) h2)
   rw[vd hn]
   by_cases he:w.1=x
   ·simp[he]
   ·have FM:ke x w.1=true:=u7 (by simpa using aE) he
    have:la r x=none:=by
     unfold la
     have:(List.find? (fun q=>decide (q.1=x)) r)=none:=by
      rw[List.find?_eq_none];intro q hq k
      have k:q.1=x:=by simpa using k
      have:=fJ FM (hw hq);rw[k,dk]at this;cases this
     rw[this];rfl
    rw[if_neg he,this];simp[he]
theorem VX(hG:HG G)(l:List aG)(g:aG)(hs:g6 l)(hl:l.length≤50000000):FX G 215 Ef ((l,g,()),())=some ((bJ l g,()),()):=by
 refine aJ (fn:=Tryz.f215) (hG _ _ rfl) (by kernel_rfl) (by kernel_rfl) ((UP _ _ _).trans ?_)
 refine aa (M4 hG l g.1 hs hl) ?_
 refine aa (R4 (hG _ _ rfl) l hl) ?_
 unfold bJ
 rw[BI hs,E0 g hs]
 have hc:cY l g.1≤l.length:=CY l g.1
 by_cases h:(l[cY l g.1]?).map (·.1)=some g.1
 ·rw[decide_eq_true h,if_neg (fun k=>by cases k.1),if_pos h]
  refine ae rfl ?_
  obtain⟨u,hu,_⟩:∃u,l[cY l g.1]? = some u∧u.1=g.1:=by
   cases hq:l[cY l g.1]? with
   |none=>rw[hq]at h;cases h
   |some u=>rw[hq]at h;exact⟨u,rfl,by simpa using h⟩
  have aE:=(List.getElem?_eq_some_iff.1 hu).1
  refine ae (dD (jP _) (bG aE)) ?_
  exact aa hu rfl
 ·rw[decide_eq_false h,if_neg h]
  refine af rfl ?_
  by_cases h4:400≤l.length
  ·rw[if_pos ⟨rfl,h4⟩]
   exact af (decide_eq_false (show ¬((l.length:Nat):Int)<400 by omega)) rfl
  ·rw[if_neg (fun k=>h4 k.2)]
   refine ae (decide_eq_true (show((l.length:Nat):Int)<400 by omega)) ?_
   have ll:oW l ((cY l g.1:Nat):Int) [g]=true:=by
    unfold oW
    rw[decide_eq_true (show(0:Int)≤((cY l g.1:Nat):Int) by omega),decide_eq_true (show((cY l g.1:Nat):Int)≤((l.length:Nat):Int) by omega)]
    rw[fits (by simp;omega)];rfl
   refine ae ll ?_
   have e:fb l ((cY l g.1:Nat):Int) [g]=l.take (cY l g.1)++(g::l.drop (cY l g.1)):=by unfold fb;simp
   exact congrArg (fun r:List aG=>some ((r,()),())) e
theorem BJ(hG:HG G)(w:az)(x to:ab)(hs:g6 w.2.2.1)(hl:w.2.2.1.length≤50000000):FX G 183 yD ((x,to,()),(w,()))=some ((),((w.1,(w.2.1,(bJ w.2.2.1 (x,to),()))),())):=by
 refine aJ (fn:=Tryz.f183) (hG _ _ rfl) (by kernel_rfl) (by kernel_rfl) ((Uy _ _ _).trans ?_)
 exact aa (VX hG w.2.2.1 (x,to) hs hl) rfl
theorem BL(hG:HG G)(w:az)(x:ab)(hw:Rw w.1)(hl:w.1.length≤50000000)(hr:∀v∈w.1,v.2.1.length≤50000000){k:Nat}{v:aj}(hk:w.1[k]? = some v)(hx:x∈v.2.1) :
  FX G 185 kR ((x,()),(w,()))=some (((some ((⟨0,by decide⟩:Fin 1),k)),()),(w,())):=by
 refine aJ (fn:=Tryz.f185) (hG _ _ rfl) (by kernel_rfl) (by kernel_rfl) ((UA _ _ _).trans ?_)
 have Ri:=(List.getElem?_eq_some_iff.1 hk).1
 have loop:∀(n i:Nat),i+n=k→LX G 185 kR Tryz.f185 tB (bA Tryz.prog 185 0) ((((w.1.length:Nat):Int),((i:Int),())),((w,((x,()),())),()))=some (((some ((⟨0,by decide⟩:Fin 1),k)),()),(w,())):=by
  intro n
  induction n with
  |zero =>
   intro i hi
   have hi:i=k:=by omega
   subst hi
   refine aK (j:=0) (by kernel_rfl) ((H6 _ _ _).trans ?_)
   refine ae (bG Ri) (ae (dD (jP _) (bG Ri)) (aa hk ?_))
   refine aa (By hG v.2.1 x (by have:=hr v (List.mem_of_getElem? hk);omega)) ?_
   exact ae (decide_eq_true hx) rfl
  |succ n ih =>
   intro i hi
   have ng:i<w.1.length:=by omega
   have hu:w.1[i]? = some w.1[i]:=List.getElem?_eq_getElem ng
   have Ba:x∉w.1[i].2.1:=fun hxi=>by
    have h1:w.1[i]=v:=hw.one (List.mem_of_getElem? hk) (List.getElem_mem ng) hx hxi
    have h2:=jk hw.s hk rfl
    have h3:=jk hw.s (x:=v.1) hu (by rw[h1])
    omega
   refine aK (j:=0) (by kernel_rfl) ((H6 _ _ _).trans ?_)
   refine ae (bG ng) (ae (dD (jP _) (bG ng)) (aa hu ?_))
   refine aa (By hG w.1[i].2.1 x (by have:=hr _ (List.getElem_mem ng);omega)) ?_
   refine af (decide_eq_false Ba) ?_
   have:=ih (i+1) (by omega)
   rw[←aP ng (by omega)]at this
   exact this
 exact loop k 0 (by omega)
theorem G8{l:List aj}{k:Nat}{v:aj}(hs:bQ l)(hk:l[k]? = some v)(r:List ab):l.set k (v.1,(r,v.2.2))=l.map (uU v.1 r):=by
 have h:=mX hs (List.mem_of_getElem? hk)
 rw[jk hs hk rfl]
 refine(EU hs h (uU v.1 r) (fun u=>(u.1,(r,u.2.2))) (fun u hu=>?_) (fun u hu=>?_)).symm
 ·unfold uU;rw[if_pos hu]
 ·unfold uU;rw[if_neg hu]
theorem pV{l:List aj}{x:ab}(h:x∈aq l):∃(k:Nat) (v:aj),l[k]? = some v∧x∈v.2.1∧v∈l:=by
 obtain⟨v,hv,hx⟩:=bm.1 h
 obtain⟨k,hk,he⟩:=List.getElem_of_mem hv
 exact⟨k,v,by rw[List.getElem?_eq_getElem hk,he],hx,hv⟩
structure Sv(l:List aj):Prop where
 n:l.length≤50000000
 r:∀v∈l,v.2.1.length≤50000000
theorem M5{n:Int}(h:n=0∨n=1):dN .xor .i64 n 1=IntKind.wrap .i64 (1-n):=by
 rcases h with rfl|rfl<;>decide
theorem E1(hG:G 188 mK=none)(x:ab)(h:x.2=0∨x.2=1):FX G 188 mK ((x,()),())=some ((ar x,()),()):=by
 refine aJ (fn:=Tryz.f188) hG (by kernel_rfl) (by kernel_rfl) ((UD _ _ _).trans ?_)
 exact congrArg (fun n:Int=>some ((((x.1,n):ab),()),())) (M5 h)
theorem Kj{d:ak}(h:Rw d.1){v:aj}{x:ab}(hv:v∈d.1)(hx:x∈v.2.1):dX d x=if(k9 v.2.1 x).1=x.1 then(if(k9 v.2.1 (k9 v.2.1 x)).1=x.1 then zD else k9 v.2.1 (k9 v.2.1 x)) else k9 v.2.1 x:=by
 unfold dX
 have e:cX d ((fN d x).getD zI)=v.2.1:=by
  unfold fN;rw[mh h hv hx];exact jo h.s hv
 simp only[e]
 by_cases h1:(k9 v.2.1 x).1=x.1
 ·simp only[if_pos h1]
 ·simp only[if_neg h1]
theorem QW(hG:HG G)(w:az)(x:ab)(hw:Rw w.1)(hs:Sv w.1)(hx:x∈aq w.1)(e:List an):FX G 184 yE ((x,()),(w,()))=some ((dX (w.1,e) x,()),(w,())):=by
 obtain⟨k,v,hk,j0,hv⟩:=pV hx
 have LZ:=hs.r v hv
 refine aJ (fn:=Tryz.f184) (hG _ _ rfl) (by kernel_rfl) (by kernel_rfl) ((Uz _ _ _).trans ?_)
 rw[Kj (d:=(w.1,e)) hw hv j0]
 have prev:∀y:ab,FX G 140 Bn ((v.2.1,y,()),())=some (((k9 v.2.1 y),((Oj (iB v.2.1 y (v.2.1.length-1))).2)),()):=fun y=>by
  refine(VT hG v.2.1 y (by omega)).trans ?_
  have:(Oj (iB v.2.1 y (v.2.1.length-1))).1=k9 v.2.1 y:=Pp _
  rw[←this]
 have mO:∀y:ab,((y.1.1==x.1.1)&&(y.1.2==x.1.2))=decide (y.1=x.1):=fun y=>EH y.1 x.1
 refine aK (j:=0) (by kernel_rfl) ((CF _ _ _).trans ?_)
 refine ae rfl (aa (BL hG w x hw hs.n hs.r hk j0) ?_)
 refine rC rfl (ae rfl (aa hk ?_))
 refine aa (prev x) ?_
 by_cases h1:(k9 v.2.1 x).1=x.1
 ·rw[if_pos h1]
  refine aU ((mO _).trans (decide_eq_true h1)) ?_
  refine aK (j:=0) (by kernel_rfl) ((CF _ _ _).trans ?_)
  refine ae rfl (aa (BL hG w x hw hs.n hs.r hk j0) ?_)
  refine rC rfl (ae rfl (aa hk ?_))
  refine aa (prev (k9 v.2.1 x)) ?_
  by_cases h2:(k9 v.2.1 (k9 v.2.1 x)).1=x.1
  ·rw[if_pos h2]
   refine aU ((mO _).trans (decide_eq_true h2)) ?_
   refine aK (j:=0) (by kernel_rfl) ((CF _ _ _).trans ?_)
   exact af rfl rfl
  ·rw[if_neg h2]
   exact aU ((mO _).trans (decide_eq_false h2)) rfl
 ·rw[if_neg h1]
  exact aU ((mO _).trans (decide_eq_false h1)) rfl
theorem E2{l:List an}{x:ID}(hs:cT l)(h:(aQ l x).isSome=true)(hl:l.length≤50000000) :
  iK l ((bP l x:Nat):Int) (IntKind.wrap .i64 (((bP l x:Nat):Int)+1))=true∧cV l ((bP l x:Nat):Int) (IntKind.wrap .i64 (((bP l x:Nat):Int)+1))=dG l x:=by
 obtain⟨e,he⟩:=Option.isSome_iff_exists.1 h
 have aE:=(List.getElem?_eq_some_iff.1 (lh hs he)).1
 have hw:IntKind.wrap .i64 (((bP l x:Nat):Int)+1)=((bP l x+1:Nat):Int):=aP aE (by omega)
 constructor
 ·rw[hw]
  unfold iK
  rw[decide_eq_true (show(0:Int)≤((bP l x:Nat):Int) by omega),decide_eq_true (show((bP l x:Nat):Int)<((bP l x+1:Nat):Int) by omega),decide_eq_true (show((bP l x+1:Nat):Int)≤((l.length:Nat):Int) by omega),fits (by omega)];rfl
 ·rw[hw,u5 hs h]
  unfold cV;simp only[Int.toNat_natCast]
theorem M6{l:List aj}{x:ID}(hs:bQ l)(h:(aN l x).isSome=true)(hl:l.length≤50000000) :
  iK l ((bh l x:Nat):Int) (IntKind.wrap .i64 (((bh l x:Nat):Int)+1))=true∧cV l ((bh l x:Nat):Int) (IntKind.wrap .i64 (((bh l x:Nat):Int)+1))=fw l x:=by
 obtain⟨e,he⟩:=Option.isSome_iff_exists.1 h
 have aE:=(List.getElem?_eq_some_iff.1 (cM hs he)).1
 have hw:IntKind.wrap .i64 (((bh l x:Nat):Int)+1)=((bh l x+1:Nat):Int):=aP aE (by omega)
 constructor
 ·rw[hw]
  unfold iK
  rw[decide_eq_true (show(0:Int)≤((bh l x:Nat):Int) by omega),decide_eq_true (show((bh l x:Nat):Int)<((bh l x+1:Nat):Int) by omega),decide_eq_true (show((bh l x+1:Nat):Int)≤((l.length:Nat):Int) by omega),fits (by omega)];rfl
 ·rw[hw,uY hs h]
  unfold cV;simp only[Int.toNat_natCast]
theorem Sv.re{l:List aj}(h:Sv l)(x:ID){r:List ab}(hr:r.length≤50000000):Sv (l.map (uU x r)):=by
 refine⟨by simp;exact h.n,fun w hw=>?_⟩
 obtain⟨u,hu,rfl⟩:=List.mem_map.1 hw
 unfold uU
 split
 ·exact hr
 ·exact h.r u hu
theorem zw{row:List ab}(d:ab):(hY row d).length≤row.length:=by
 unfold hY;rw[fq];exact List.length_filter_le _ _
theorem IG{w:az}{x:ab}(hw:Rw w.1){k:Nat}{v:aj}(hk:w.1[k]? = some v)(hx:x∈v.2.1)(e:List an):w.1.set k (v.1,(hY v.2.1 x,v.2.2))=(aA (w.1,e) x).1:=by
 rw[jq (d:=(w.1,e)) hw (List.mem_of_getElem? hk) hx]
 exact G8 hw.s hk _
theorem ZP(hG:HG G)(s:StateT)(o:aO)(h:ed s)(hs:Sv s.1.1) :
  ∃(e:Int) (w:az),FX G 155 yx ((o,()),(aD s,()))=some ((e,()),(w,()))∧iF e w=GZ s o:=by
 have aV:=h.d.ne
 unfold GZ
 cases hf:(aQ s.1.2 (ba o)).isSome with
 |false =>
  refine⟨13,aD s,?_,?_⟩
  ·refine aJ (fn:=Tryz.f155) (hG _ _ rfl) (by kernel_rfl) (by kernel_rfl) ((Up _ _ _).trans ?_)
   refine aa (mU hG (aD s) (ba o) h.d.se (by show s.1.2.length≤_;omega)) ?_
   exact aU ((cP (l:=s.1.2) h.d.se).trans hf) rfl
  ·rw[if_pos (show(mO s.1 (ba o)).isSome=false from hf)];rfl
 |true =>
  rw[if_neg (show ¬(mO s.1 (ba o)).isSome=false by show ¬(aQ s.1.2 (ba o)).isSome=false;rw[hf];simp)]
  obtain⟨x,hx⟩:∃x:ab,x=(ba o,0):=⟨_,rfl⟩
  obtain⟨y,hy⟩:∃y:ab,y=(ba o,1):=⟨_,rfl⟩
  have ZQ:x∈aq s.1.1:=by rw[hx];exact h.d.mi hf (.inl rfl)
  have VY:y∈aq s.1.1:=by rw[hy];exact h.d.mi hf (.inr rfl)
  have g1:=js h.g h.n (x,dX s.1 x)
  have hn:=h.n
  obtain⟨p1,q1⟩:=dY h.d.rw ZQ
  have ZR:y∈aq (aA s.1 x).1:=by
   rcases List.mem_cons.1 (p1.mem_iff.1 VY) with k|k
   ·rw[hx,hy]at k;cases k
   ·exact k
  have KV:=jr (jr h.d.gv x) y
  refine⟨0,((aA (aA s.1 x) y).1,(dG s.1.2 (ba o),(bJ (bJ s.2 (x,dX s.1 x)) (y,dX s.1 y),()))),?_,?_⟩
  ·refine aJ (fn:=Tryz.f155) (hG _ _ rfl) (by kernel_rfl) (by kernel_rfl) ((Up _ _ _).trans ?_)
   refine aa (mU hG (aD s) (ba o) h.d.se (by show s.1.2.length≤_;omega)) ?_
   refine aU ((cP (l:=s.1.2) h.d.se).trans hf) (af rfl ?_)
   have ZS:FX G 179 yy ((ba o,()),())=some ((x,y,()),()):=by
    rw[hx,hy];exact aJ (fn:=Tryz.f179) (hG _ _ rfl) (by kernel_rfl) (by kernel_rfl) (QD _ _ _)
   refine aa ZS ?_
   refine aK (j:=0) (by kernel_rfl) ((GI _ _ _).trans ?_)
   refine ae rfl (ae rfl (aa (a:=x) rfl ?_))
   refine aa (QW hG (aD s) x h.d.rw hs ZQ s.1.2) ?_
   refine aa (BJ hG (aD s) x (dX s.1 x) h.g (by show s.2.length≤_;omega)) ?_
   refine aK (j:=0) (by kernel_rfl) ((GI _ _ _).trans ?_)
   refine ae rfl (ae rfl (aa (a:=y) rfl ?_))
   refine aa (QW hG (s.1.1,(s.1.2,(bJ s.2 (x,dX s.1 x),()))) y h.d.rw hs VY s.1.2) ?_
   refine aa (BJ hG (s.1.1,(s.1.2,(bJ s.2 (x,dX s.1 x),()))) y (dX s.1 y) g1.1 (by have:=g1.2;show(bJ s.2 (x,dX s.1 x)).length≤_;omega)) ?_
   refine aK (j:=0) (by kernel_rfl) ((GI _ _ _).trans ?_)
   refine af rfl ?_
   generalize bJ (bJ s.2 (x,dX s.1 x)) (y,dX s.1 y)=gg
   obtain⟨k,v,hk,j0,hv⟩:=pV ZQ
   refine aK (j:=1) (by kernel_rfl) ((GJ _ _ _).trans ?_)
   refine ae rfl (ae rfl (aa (a:=x) rfl ?_))
   refine aa (BL hG (s.1.1,(s.1.2,(gg,()))) x h.d.rw hs.n hs.r hk j0) ?_
   refine rC rfl (ae rfl (aa hk ?_))
   refine aa (QT hG v.2.1 x (h.d.rw.ring hv) (hs.r v hv)) ?_
   refine aa hk ?_
   have e1:s.1.1.set k (v.1,(hY v.2.1 x,v.2.2))=(aA s.1 x).1:=IG (w:=(s.1.1,(s.1.2,(gg,())))) h.d.rw hk j0 s.1.2
   have Dd:Sv (aA s.1 x).1:=by
    rw[jq h.d.rw hv j0]
    exact hs.re _ (Nat.le_trans (zw x) (hs.r v hv))
   obtain⟨k2,v2,nc,VU,vx⟩:=pV ZR
   have e2:(aA s.1 x).1.set k2 (v2.1,(hY v2.2.1 y,v2.2.2))=(aA (aA s.1 x) y).1:=IG (w:=((aA s.1 x).1,(s.1.2,(gg,())))) q1 nc VU (aA s.1 x).2
   have rest:∀a:List aj,a=(aA s.1 x).1→LX G 155 yx Tryz.f155 uN (bA Tryz.prog 155 1) ((((bP s.1.2 (ba o):Nat):Int),((2:Int),((1:Int),()))),(((a,(s.1.2,(gg,()))),()),([x,y],())))=some (((0:Int),()),(((aA (aA s.1 x) y).1,(dG s.1.2 (ba o),(gg,()))),())):=by
    intro a ha
    subst ha
    refine aK (j:=1) (by kernel_rfl) ((GJ _ _ _).trans ?_)
    refine ae rfl (ae rfl (aa (a:=y) rfl ?_))
    refine aa (BL hG ((aA s.1 x).1,(s.1.2,(gg,()))) y q1 Dd.n Dd.r nc VU) ?_
    refine rC rfl (ae rfl (aa nc ?_))
    refine aa (QT hG v2.2.1 y (q1.ring vx) (Dd.r v2 vx)) ?_
    refine aa nc ?_
    have last:∀b:List aj,b=(aA (aA s.1 x) y).1→LX G 155 yx Tryz.f155 uN (bA Tryz.prog 155 1) ((((bP s.1.2 (ba o):Nat):Int),((2:Int),((2:Int),()))),(((b,(s.1.2,(gg,()))),()),([x,y],())))=some (((0:Int),()),(((aA (aA s.1 x) y).1,(dG s.1.2 (ba o),(gg,()))),())):=by
     intro b hb
     subst hb
     refine aK (j:=1) (by kernel_rfl) ((GJ _ _ _).trans ?_)
     obtain⟨d1,d2⟩:=E2 h.d.se hf (by omega)
     refine af rfl (ae d1 ?_)
     exact congrArg (fun l:List an=>some (((0:Int),()),(((aA (aA s.1 x) y).1,(l,(gg,()))),()))) d2
    exact last _ e2
   exact rest _ e1
  ·rw[←hx,←hy]
   unfold bF
   rw[tR KV]
   rfl
end Go.Vs
namespace Go.Vs
open Go.Proofs
variable {G:(f:FuncId)→(g:aL)→Option (g.A→Option g.B)}
theorem G9{n:Int}(h0:0≤n)(h3:n≤3):dN .xor .i64 1 (dN .and .i64 n 1)=IntKind.wrap .i64 (1-Int.tmod n 2)∧j8 .i64 n 1=IntKind.wrap .i64 (Int.tdiv n 2):=by
 have:n=0∨n=1∨n=2∨n=3:=by omega
 rcases this with rfl|rfl|rfl|rfl<;>exact⟨by decide,by decide⟩
theorem E3{l:List aj}{x:ab}(hw:Rw l){k:Nat}{v:aj}(hk:l[k]? = some v)(hx:x∈v.2.1)(y:ab)(e:List an):l.set k (v.1,(k0 v.2.1 x y,v.2.2))=(aB (l,e) x y).1:=by
 rw[zo (d:=(l,e)) hw y (List.mem_of_getElem? hk) hx]
 exact G8 hw.s hk _
theorem ZT(hG:HG G)(s:StateT)(o:aO)(h:ed s)(hs:Sv s.1.1)(hm:cO o=0)(Sb:o.1=5) :
    ∃(e:Int) (w:az),FX G 156 wj ((o,()),(aD s,()))=some ((e,()),(w,()))∧iF e w=n3 s o:=by
  have aV:=h.d.ne;have Oy:=h.d.nv
  obtain⟨m1,m2,m3,m4⟩:=BE hm Sb
  obtain⟨s1,s2⟩:=EZ m3 m4
  obtain⟨c1,c2⟩:=G9 m3 m4
  have key:∀(e:Int) (w:az),FX G 156 wj ((o,()),(aD s,()))=some ((e,()),(w,()))→iF e w=n3 s o→∃(e:Int) (w:az),FX G 156 wj ((o,()),(aD s,()))=some ((e,()),(w,()))∧iF e w=n3 s o:=fun e w a b=>⟨e,w,a,b⟩
  have start:∀(e:Int) (w:az),dr 156 wj Tryz.f156 (FX G) (LX G 156 wj Tryz.f156) ((o,()),(aD s,()))=some ((e,()),(w,()))→FX G 156 wj ((o,()),(aD s,()))=some ((e,()),(w,())):=fun e w a =>
    aJ (fn:=Tryz.f156) (hG _ _ rfl) (by kernel_rfl) (by kernel_rfl) a
  unfold n3
  cases hf:(aQ s.1.2 (ba o)).isSome with
  |false =>
    refine⟨13,aD s,start _ _ ((O3 _ _ _).trans ?_),?_⟩
    · refine aa (mU hG (aD s) (ba o) h.d.se (by show s.1.2.length≤_;omega)) ?_
      refine aa (oF hG (aD s) (eT o) h.d.sv (by show s.1.1.length≤_;omega)) ?_
      refine aa (mU hG (aD s) (bz o) h.d.se (by show s.1.2.length≤_;omega)) ?_
      exact aU ((cP (l:=s.1.2) h.d.se).trans hf) rfl
    · rw[if_pos (show(mO s.1 (ba o)).isSome=false from hf)];rfl
  |true =>
  rw[if_neg (show ¬(mO s.1 (ba o)).isSome=false by show ¬(aQ s.1.2 (ba o)).isSome=false;rw[hf];simp)]
  cases OQ:(aN s.1.1 (eT o)).isSome with
  |true =>
    refine⟨12,aD s,start _ _ ((O3 _ _ _).trans ?_),?_⟩
    · refine aa (mU hG (aD s) (ba o) h.d.se (by show s.1.2.length≤_;omega)) ?_
      refine aa (oF hG (aD s) (eT o) h.d.sv (by show s.1.1.length≤_;omega)) ?_
      refine aa (mU hG (aD s) (bz o) h.d.se (by show s.1.2.length≤_;omega)) ?_
      refine aU ((cP (l:=s.1.2) h.d.se).trans hf) (af rfl ?_)
      exact ae ((eJ (l:=s.1.1) h.d.sv).trans OQ) rfl
    · rw[if_pos (show(ck s.1 (eT o)).isSome=true from OQ)];rfl
  |false =>
  rw[if_neg (show ¬(ck s.1 (eT o)).isSome=true by show ¬(aN s.1.1 (eT o)).isSome=true;rw[OQ];simp)]
  cases O7:(aQ s.1.2 (bz o)).isSome with
  |true =>
    refine⟨12,aD s,start _ _ ((O3 _ _ _).trans ?_),?_⟩
    · refine aa (mU hG (aD s) (ba o) h.d.se (by show s.1.2.length≤_;omega)) ?_
      refine aa (oF hG (aD s) (eT o) h.d.sv (by show s.1.1.length≤_;omega)) ?_
      refine aa (mU hG (aD s) (bz o) h.d.se (by show s.1.2.length≤_;omega)) ?_
      refine aU ((cP (l:=s.1.2) h.d.se).trans hf) (af rfl ?_)
      refine af ((eJ (l:=s.1.1) h.d.sv).trans OQ) ?_
      exact ae ((cP (l:=s.1.2) h.d.se).trans O7) rfl
    · rw[if_pos (show(mO s.1 (bz o)).isSome=true from O7)];rfl
  |false =>
  rw[if_neg (show ¬(mO s.1 (bz o)).isSome=true by show ¬(aQ s.1.2 (bz o)).isSome=true;rw[O7];simp)]
  have ZU:aN s.1.1 (eT o)=none:=by simpa using OQ
  have ZV:aQ s.1.2 (bz o)=none:=by simpa using O7
  obtain⟨m,KP⟩:∃m:ab,m=Ps o:=⟨_,rfl⟩
  obtain⟨kk,OF⟩:∃m:ab,m=Ol o:=⟨_,rfl⟩
  have XW:m∈aq s.1.1:=by rw[KP];exact h.d.mi hf s1
  have FL:ar kk∉aq s.1.1:=by rw[OF];exact h.d.w7 ZV _
  obtain⟨p1,q1⟩:=oc h.d.rw XW FL
  have nc:kk.2=0∨kk.2=1:=by rw[OF];exact s2
  obtain⟨k,v,hk,j0,hv⟩:=pV XW
  have e1:s.1.1.set k (v.1,(k0 v.2.1 m (ar kk),v.2.2))=(aB s.1 m (ar kk)).1:=E3 h.d.rw hk j0 _ s.1.2
  have hlen:(aB s.1 m (ar kk)).1.length=s.1.1.length:=by unfold aB;exact dZ _ _ _
  have Px:aN (aB s.1 m (ar kk)).1 (eT o)=none:=by
    unfold aB Vs.bW
    rw[mT (pU _ _),ZU];rfl
  have eM:((ba o,dN .xor .i64 1 (dN .and .i64 (oN o) 1)):ab)=m:=by rw[KP,c1];rfl
  have eK:((bz o,j8 .i64 (oN o) 1):ab)=kk:=by rw[OF,c2];rfl
  have go:∀(e:Int) (w:az),(∀a:List aj,a=(aB s.1 m (ar kk)).1→((FX G 152 D8 (((eT o,(cK [m,kk],(e0,(0:Int)))),()),((a,(s.1.2,(s.2,()))),()))).bind fun(mq:((Int×Unit)×(az×Unit))) =>
       cond (mq.1.1 != (0:Int))
        (some (mq.1,((mq.2.1.1,(mq.2.1.2.1,mq.2.1.2.2)),())))
        ((FX G 178 vS ((bz o,()),((mq.2.1.1,(mq.2.1.2.1,mq.2.1.2.2)),()))).bind fun(pO:((Int×Unit)×(az×Unit))) =>
        some (pO.1,((pO.2.1.1,(pO.2.1.2.1,pO.2.1.2.2)),()))))=some ((e,()),(w,())))→FX G 156 wj ((o,()),(aD s,()))=some ((e,()),(w,())):=fun e w rest=>by
    refine start _ _ ((O3 _ _ _).trans ?_)
    refine aa (mU hG (aD s) (ba o) h.d.se (by show s.1.2.length≤_;omega)) ?_
    refine aa (oF hG (aD s) (eT o) h.d.sv (by show s.1.1.length≤_;omega)) ?_
    refine aa (mU hG (aD s) (bz o) h.d.se (by show s.1.2.length≤_;omega)) ?_
    refine aU ((cP (l:=s.1.2) h.d.se).trans hf) (af rfl ?_)
    refine af ((eJ (l:=s.1.1) h.d.sv).trans OQ) ?_
    refine af ((cP (l:=s.1.2) h.d.se).trans O7) ?_
    refine af rfl ?_
    have body:∀mm k2:ab,mm=m→k2=kk→((FX G 185 kR ((mm,()),(aD s,()))).bind fun(y4:(((Option ((Fin 1)×Nat))×Unit)×(az×Unit))) =>
      oV y4.1.1
       (none) fun(p5:((Fin 1)×Nat)) =>
      cond (p5.1.val==0)
       (((y4.2.1.1)[p5.2]?).bind fun(y6:aj) =>
       (FX G 188 mK ((k2,()),())).bind fun(y7:((ab×Unit)×Unit)) =>
       (FX G 187 rp ((y6.2.1,(mm,((y7.1.1.1,y7.1.1.2),()))),())).bind fun(y8:(((List ab)×Unit)×Unit)) =>
       ((y4.2.1.1)[p5.2]?).bind fun(y9:aj) =>
       (FX G 169 pM (([mm,k2],()),())).bind fun(rr:(((List ab)×Unit)×Unit)) =>
       (FX G 152 D8 (((eT o,(rr.1.1,((⟨#[]⟩:ByteArray),(0:Int)))),()),(((List.set y4.2.1.1 p5.2 (y9.1,(y8.1.1,y9.2.2))),(y4.2.1.2.1,y4.2.1.2.2)),()))).bind fun(mq:((Int×Unit)×(az×Unit))) =>
       cond (mq.1.1 != (0:Int))
        (some (mq.1,((mq.2.1.1,(mq.2.1.2.1,mq.2.1.2.2)),())))
        ((FX G 178 vS ((bz o,()),((mq.2.1.1,(mq.2.1.2.1,mq.2.1.2.2)),()))).bind fun(pO:((Int×Unit)×(az×Unit))) =>
        some (pO.1,((pO.2.1.1,(pO.2.1.2.1,pO.2.1.2.2)),()))))
       (none))=some ((e,()),(w,())):=by
      intro mm k2 ZW ZX
      subst ZW ZX
      refine aa (BL hG (aD s) mm h.d.rw hs.n hs.r hk j0) ?_
      refine rC rfl (ae rfl (aa hk ?_))
      refine aa (E1 (hG _ _ rfl) k2 nc) ?_
      refine aa (QU hG v.2.1 mm (ar k2) (hs.r v hv)) ?_
      refine aa hk ?_
      refine aa (Bz hG [mm,k2] (by simp)) ?_
      exact rest _ e1
    exact body _ _ eM eK
  have ZY:24≤s.1.1.length→oG ((aB s.1 m (ar kk)).1,(s.1.2,(s.2,()))) (eT o,(cK [m,kk],(e0,0)))=(3,((aB s.1 m (ar kk)).1,(s.1.2,(s.2,())))):=fun hb=>by
    unfold oG
    rw[if_neg (by rw[show aN ((aB s.1 m (ar kk)).1,(s.1.2,(s.2,()))).1 ((eT o,(cK [m,kk],(e0,0))):aj).1=none from Px];simp)]
    rw[if_pos (by show 24≤(aB s.1 m (ar kk)).1.length;omega)]
  have Sc:¬24≤s.1.1.length→oG ((aB s.1 m (ar kk)).1,(s.1.2,(s.2,()))) (eT o,(cK [m,kk],(e0,0)))=(0,(eX (eT o,(cK [m,kk],(e0,0))) (aB s.1 m (ar kk)).1,(s.1.2,(s.2,())))):=fun hb=>by
    unfold oG
    rw[if_neg (by rw[show aN ((aB s.1 m (ar kk)).1,(s.1.2,(s.2,()))).1 ((eT o,(cK [m,kk],(e0,0))):aj).1=none from Px];simp)]
    rw[if_neg (by show ¬24≤(aB s.1 m (ar kk)).1.length;omega)]
  by_cases hb:24≤s.1.1.length
  · refine⟨3,((aB s.1 m (ar kk)).1,(s.1.2,(s.2,()))),go _ _ (fun a ha=>?_),?_⟩
    · subst ha
      refine aa (R5 hG ((aB s.1 m (ar kk)).1,(s.1.2,(s.2,()))) (eT o,(cK [m,kk],(e0,0))) q1.s (by show(aB s.1 m (ar kk)).1.length≤_;omega)) ?_
      rw[ZY hb]
      exact ae rfl rfl
    · rw[if_pos hb];rfl
  rw[if_neg hb]
  have hE:rD (eX (eT o,(cK [m,kk],(e0,0))) (aB s.1 m (ar kk)).1,(s.1.2,(s.2,()))) (bz o)=if 40≤s.1.2.length then(3,(eX (eT o,(cK [m,kk],(e0,0))) (aB s.1 m (ar kk)).1,(s.1.2,(s.2,())))) else(0,(eX (eT o,(cK [m,kk],(e0,0))) (aB s.1 m (ar kk)).1,(eR (bz o,(e0,0)) s.1.2,(s.2,())))):=by
    unfold rD
    rw[if_neg (by show ¬(aQ s.1.2 (bz o)).isSome=true;rw[O7];simp)]
  have fin:FX G 156 wj ((o,()),(aD s,()))=some (((rD (eX (eT o,(cK [m,kk],(e0,0))) (aB s.1 m (ar kk)).1,(s.1.2,(s.2,()))) (bz o)).1,()),((rD (eX (eT o,(cK [m,kk],(e0,0))) (aB s.1 m (ar kk)).1,(s.1.2,(s.2,()))) (bz o)).2,())):=by
    refine go _ _ (fun a ha=>?_)
    subst ha
    refine aa (R5 hG ((aB s.1 m (ar kk)).1,(s.1.2,(s.2,()))) (eT o,(cK [m,kk],(e0,0))) q1.s (by show(aB s.1 m (ar kk)).1.length≤_;omega)) ?_
    rw[Sc hb]
    refine af rfl ?_
    exact aa (QP hG (eX (eT o,(cK [m,kk],(e0,0))) (aB s.1 m (ar kk)).1,(s.1.2,(s.2,()))) (bz o) h.d.se (by show s.1.2.length≤_;omega)) rfl
  rw[hE]at fin
  by_cases Vq:40≤s.1.2.length
  · rw[if_pos Vq]at fin ⊢
    exact⟨_,_,fin,rfl⟩
  · rw[if_neg Vq]at fin ⊢
    refine⟨_,_,fin,?_⟩
    rw[KP,OF];rfl
theorem ZZ(hG:HG G)(s:StateT)(o:aO)(h:ed s)(hs:Sv s.1.1) :
    ∃(e:Int) (w:az),FX G 157 pK ((o,()),(aD s,()))=some ((e,()),(w,()))∧iF e w=n6 s o:=by
  have aV:=h.d.ne;have Oy:=h.d.nv;have hgn:=h.n
  have start:∀(e:Int) (w:az),dr 157 pK Tryz.f157 (FX G) (LX G 157 pK Tryz.f157) ((o,()),(aD s,()))=some ((e,()),(w,()))→FX G 157 pK ((o,()),(aD s,()))=some ((e,()),(w,())):=fun e w a =>
    aJ (fn:=Tryz.f157) (hG _ _ rfl) (by kernel_rfl) (by kernel_rfl) a
  unfold n6
  cases hf:aN s.1.1 (ba o) with
  |none =>
    refine⟨13,aD s,start _ _ ((Uq _ _ _).trans ?_),?_⟩
    · refine aa (oF hG (aD s) (ba o) h.d.sv (by show s.1.1.length≤_;omega)) ?_
      exact aU ((eJ (l:=s.1.1) h.d.sv).trans (by rw[hf])) rfl
    · rw[show ck s.1 (ba o)=none from hf];rfl
  |some v =>
  have hfs:(aN s.1.1 (ba o)).isSome=true:=by rw[hf];rfl
  have hv:=fH hf
  have VW:=jS hf
  have l9:=cM h.d.sv hf
  have aE:=(List.getElem?_eq_some_iff.1 l9).1
  have Yv:=h.d.rw
  have go:∀(e:Int) (w:az),(cond ((((List.length v.2.1):Nat):Int) != (2:Int)) (some (((14:Int),()),(aD s,()))) _=some ((e,()),(w,())))→FX G 157 pK ((o,()),(aD s,()))=some ((e,()),(w,())):=fun e w rest=>by
    refine start _ _ ((Uq _ _ _).trans ?_)
    refine aa (oF hG (aD s) (ba o) h.d.sv (by show s.1.1.length≤_;omega)) ?_
    refine aU ((eJ (l:=s.1.1) h.d.sv).trans hfs) (af rfl ?_)
    refine ae (dD (jP _) (bG aE)) (aa l9 ?_)
    exact rest
  rw[show ck s.1 (ba o)=some v from hf]
  by_cases wD:v.2.1.length=2
  case neg =>
    refine⟨14,aD s,go _ _ (ae (by rw[bne_iff_ne];omega) rfl),?_⟩
    show iF 14 (aD s)=(match v.2.1 with | [r0,r1]=>lS s o r0 r1|_=>(zS,(14,())))
    split
    · rename_i hr;rw[hr]at wD;exact absurd rfl wD
    · rfl
  obtain⟨r0,r1,hr⟩:∃r0 r1,v.2.1=[r0,r1]:=by
    match hq:v.2.1,wD with
    |[a,b],_=>exact⟨a,b,rfl⟩
  have Bi:(((List.length v.2.1:Nat):Int) != (2:Int))=false:=by rw[wD];rfl
  have g0:cQ v.2.1 (0:Int)=some r0:=by rw[hr];rfl
  have g1:cQ v.2.1 (1:Int)=some r1:=by rw[hr];rfl
  show ∃(e:Int) (w:az),FX G 157 pK ((o,()),(aD s,()))=some ((e,()),(w,()))∧iF e w=(match v.2.1 with | [r0,r1]=>lS s o r0 r1|_=>(zS,(14,())))
  rw[hr]
  show ∃(e:Int) (w:az),FX G 157 pK ((o,()),(aD s,()))=some ((e,()),(w,()))∧iF e w=lS s o r0 r1
  unfold lS
  by_cases Tt:r0.1=r1.1
  · refine⟨14,aD s,go _ _ (af Bi (aa g0 (aa g1 (ae ((EH r0.1 r1.1).trans (decide_eq_true Tt)) rfl)))),?_⟩
    rw[if_pos Tt];rfl
  rw[if_neg Tt]
  have b01:=(EH r0.1 r1.1).trans (decide_eq_false Tt)
  have tail:∀a b:ab,v.2.1.Perm [a,b]→a.1≠b.1→((FX G 188 mK ((b,()),())).bind fun(y7:((ab×Unit)×Unit)) =>
        cond (iK s.1.1 ((bh s.1.1 (ba o):Nat):Int) (IntKind.wrap .i64 (((bh s.1.1 (ba o):Nat):Int)+(1:Int))))
         ((FX G 185 kR (((y7.1.1.1,y7.1.1.2),()),(((cV s.1.1 ((bh s.1.1 (ba o):Nat):Int) (IntKind.wrap .i64 (((bh s.1.1 (ba o):Nat):Int)+(1:Int)))),(s.1.2,(s.2,()))),()))).bind fun(y8:(((Option ((Fin 1)×Nat))×Unit)×(az×Unit))) =>
         oV y8.1.1
          (none) fun(p9:((Fin 1)×Nat)) =>
         cond (p9.1.val==0)
          (((y8.2.1.1)[p9.2]?).bind fun(rr:aj) =>
          (FX G 187 rp ((rr.2.1,((y7.1.1.1,y7.1.1.2),(a,()))),())).bind fun(mq:(((List ab)×Unit)×Unit)) =>
          ((y8.2.1.1)[p9.2]?).bind fun(pO:aj) =>
          (FX G 182 lM ((b.1,()),(((List.set y8.2.1.1 p9.2 (pO.1,(mq.1.1,pO.2.2))),(y8.2.1.2.1,y8.2.1.2.2)),()))).bind fun(ly:((Int×(Bool×Unit))×(az×Unit))) =>
          cond (iK ly.2.1.2.1 ly.1.1 (IntKind.wrap .i64 (ly.1.1+(1:Int))))
           (LX G 157 pK Tryz.f157 mg (bA Tryz.prog 157 0) (((0:Int),()),(((ly.2.1.1,((cV ly.2.1.2.1 ly.1.1 (IntKind.wrap .i64 (ly.1.1+(1:Int)))),ly.2.1.2.2)),((a,()),((b,()),(((y7.1.1.1,y7.1.1.2),()),())))),())))
           (none))
          (none))
         (none))=some (((0:Int),()),(((J4 s o a b).1,((J4 s o a b).2,(G1 s.2 a b,()))),())):=by
    intro a b hp Ah
    obtain⟨p,q,h1,_,h2,_⟩:=sx h.d.sv hv
    have pd:(aq s.1.1).Perm (a::b::aq (p++q)):=by
      have:=(jm p q v).trans (List.Perm.append_right _ hp)
      rw[←h1]at this;exact this
    have IH:fw s.1.1 (ba o)=p++q:=by rw[←VW];exact h2
    have Ki:bF s.1 (ba o) zI=(p++q,s.1.2):=by unfold bF;rw[IH,w6 h.d.ge]
    have Db:=pd.nodup_iff.1 Yv.n
    have ZO:b∈ends s.1.2:=h.d.pd.mem_iff.1 (pd.mem_iff.2 (by simp))
    obtain⟨e,he,T5,Ao⟩:=eu.1 ZO
    have Ct:(aQ s.1.2 b.1).isSome=true:=by
      unfold aQ;rw[List.find?_isSome];exact⟨e,he,by simpa using T5⟩
    obtain⟨_,ho⟩:=qJ Ao
    have R9:ar b∈aq (p++q):=by
      have h3:ar b∈aq s.1.1:=h.d.mi (s:=(ar b).2) Ct (by rcases ho with⟨_,k⟩|⟨_,k⟩<;>omega)
      rcases List.mem_cons.1 (pd.mem_iff.1 h3) with k|k
      · exact absurd (congrArg Prod.fst k) (fun k=>Ah k.symm)
      rcases List.mem_cons.1 k with k|k
      · have:=congrArg Prod.snd k;omega
      · exact k
    have Py:Rw (p++q):=⟨by rw[←h2];exact n8 h.d.sv,(List.nodup_cons.1 (List.nodup_cons.1 Db).2).2⟩
    have aZ:∀u∈p++q,u∈s.1.1:=fun u hu=>by
      rw[h1]
      rcases List.mem_append.1 hu with k|k
      · exact List.mem_append_left _ k
      · exact List.mem_append_right _ (List.mem_cons_of_mem _ k)
    have Dd:Sv (p++q):=⟨by
      have:=hs.n;rw[h1]at this;simp at this ⊢;omega,fun u hu=>hs.r u (aZ u hu)⟩
    obtain⟨dk1,dk2⟩:=M6 h.d.sv hfs (by omega)
    rw[IH]at dk2
    obtain⟨k,u,hk,hxu,hu⟩:=pV R9
    have e1:(p++q).set k (u.1,(k0 u.2.1 (ar b) a,u.2.2))=(aB (p++q,s.1.2) (ar b) a).1:=E3 Py hk hxu _ s.1.2
    have KV:∀w∈(aB (p++q,s.1.2) (ar b) a).1,GV w:=sy (d:=(p++q,s.1.2)) (fun w hw=>h.d.gv w (aZ w hw)) _ _
    have eD:J4 s o a b=((aB (p++q,s.1.2) (ar b) a).1,dG s.1.2 b.1):=by
      unfold J4
      rw[Ki]
      unfold bF
      rw[tR KV];rfl
    have ga:=js h.g h.n ((b.1,0),sr a b 0)
    rw[eD]
    refine aa (E1 (hG _ _ rfl) b Ao) ?_
    refine ae dk1 ?_
    have r1:∀l1:List aj,l1=p++q→((FX G 185 kR ((ar b,()),((l1,(s.1.2,(s.2,()))),()))).bind fun(y8:(((Option ((Fin 1)×Nat))×Unit)×(az×Unit))) =>
         oV y8.1.1
          (none) fun(p9:((Fin 1)×Nat)) =>
         cond (p9.1.val==0)
          (((y8.2.1.1)[p9.2]?).bind fun(rr:aj) =>
          (FX G 187 rp ((rr.2.1,(ar b,(a,()))),())).bind fun(mq:(((List ab)×Unit)×Unit)) =>
          ((y8.2.1.1)[p9.2]?).bind fun(pO:aj) =>
          (FX G 182 lM ((b.1,()),(((List.set y8.2.1.1 p9.2 (pO.1,(mq.1.1,pO.2.2))),(y8.2.1.2.1,y8.2.1.2.2)),()))).bind fun(ly:((Int×(Bool×Unit))×(az×Unit))) =>
          cond (iK ly.2.1.2.1 ly.1.1 (IntKind.wrap .i64 (ly.1.1+(1:Int))))
           (LX G 157 pK Tryz.f157 mg (bA Tryz.prog 157 0) (((0:Int),()),(((ly.2.1.1,((cV ly.2.1.2.1 ly.1.1 (IntKind.wrap .i64 (ly.1.1+(1:Int)))),ly.2.1.2.2)),((a,()),((b,()),((ar b,()),())))),())))
           (none))
          (none))=some (((0:Int),()),(((aB (p++q,s.1.2) (ar b) a).1,(dG s.1.2 b.1,(G1 s.2 a b,()))),())):=by
      intro l1 Xs
      subst Xs
      refine aa (BL hG (p++q,(s.1.2,(s.2,()))) (ar b) Py Dd.n Dd.r hk hxu) ?_
      refine rC rfl (ae rfl (aa hk ?_))
      refine aa (QU hG u.2.1 (ar b) a (Dd.r u hu)) ?_
      refine aa hk ?_
      have r2:∀l2:List aj,l2=(aB (p++q,s.1.2) (ar b) a).1→((FX G 182 lM ((b.1,()),((l2,(s.1.2,(s.2,()))),()))).bind fun(ly:((Int×(Bool×Unit))×(az×Unit))) =>
          cond (iK ly.2.1.2.1 ly.1.1 (IntKind.wrap .i64 (ly.1.1+(1:Int))))
           (LX G 157 pK Tryz.f157 mg (bA Tryz.prog 157 0) (((0:Int),()),(((ly.2.1.1,((cV ly.2.1.2.1 ly.1.1 (IntKind.wrap .i64 (ly.1.1+(1:Int)))),ly.2.1.2.2)),((a,()),((b,()),((ar b,()),())))),())))
           (none))=some (((0:Int),()),(((aB (p++q,s.1.2) (ar b) a).1,(dG s.1.2 b.1,(G1 s.2 a b,()))),())):=by
        intro l2 wD
        subst wD
        refine aa (mU hG ((aB (p++q,s.1.2) (ar b) a).1,(s.1.2,(s.2,()))) b.1 h.d.se (by show s.1.2.length≤_;omega)) ?_
        obtain⟨ek1,ek2⟩:=E2 h.d.se Ct (by omega)
        refine ae ek1 ?_
        have r3:∀l3:List an,l3=dG s.1.2 b.1→(LX G 157 pK Tryz.f157 mg (bA Tryz.prog 157 0) (((0:Int),()),((((aB (p++q,s.1.2) (ar b) a).1,(l3,(s.2,()))),((a,()),((b,()),((ar b,()),())))),())))=some (((0:Int),()),(((aB (p++q,s.1.2) (ar b) a).1,(dG s.1.2 b.1,(G1 s.2 a b,()))),())):=by
          intro l3 hl3
          subst hl3
          have eb:b=(b.1,b.2):=rfl
          have eo:ar b=(b.1,(ar b).2):=rfl
          rcases ho with⟨AD,Le⟩|⟨O5,Xw⟩
          · rw[AD]at eb;rw[Le]at eo
            have t0:sr a b 0=zD:=by unfold sr;rw[if_neg (by rw[eo];simp)]
            have t1:sr a b 1=a:=by unfold sr;rw[if_pos eo.symm]
            rw[t0,←eb]at ga
            have eG:G1 s.2 a b=bJ (bJ s.2 (b,zD)) (ar b,a):=by unfold G1;rw[t0,t1,←eb,←eo]
            rw[eG]
            refine aK (j:=0) (by kernel_rfl) ((uP _ _ _).trans ?_)
            refine ae rfl (ae (by show(b.2==(0:Int))=true;simp[AD]) ?_)
            refine aa (BJ hG ((aB (p++q,s.1.2) (ar b) a).1,(dG s.1.2 b.1,(s.2,()))) b zD h.g (by show s.2.length≤_;omega)) ?_
            refine aK (j:=0) (by kernel_rfl) ((uP _ _ _).trans ?_)
            refine ae rfl (af (by show(b.2==(1:Int))=false;simp[AD]) ?_)
            refine aa (BJ hG ((aB (p++q,s.1.2) (ar b) a).1,(dG s.1.2 b.1,(bJ s.2 (b,zD),()))) (ar b) a ga.1 (by have:=ga.2;show(bJ s.2 (b,zD)).length≤_;omega)) ?_
            refine aK (j:=0) (by kernel_rfl) ((uP _ _ _).trans ?_)
            exact af rfl rfl
          · rw[O5]at eb;rw[Xw]at eo
            have t0:sr a b 0=a:=by unfold sr;rw[if_pos eo.symm]
            have t1:sr a b 1=zD:=by unfold sr;rw[if_neg (by rw[eo];simp)]
            rw[t0,←eo]at ga
            have eG:G1 s.2 a b=bJ (bJ s.2 (ar b,a)) (b,zD):=by unfold G1;rw[t0,t1,←eb,←eo]
            rw[eG]
            refine aK (j:=0) (by kernel_rfl) ((uP _ _ _).trans ?_)
            refine ae rfl (af (by show(b.2==(0:Int))=false;simp[O5]) ?_)
            refine aa (BJ hG ((aB (p++q,s.1.2) (ar b) a).1,(dG s.1.2 b.1,(s.2,()))) (ar b) a h.g (by show s.2.length≤_;omega)) ?_
            refine aK (j:=0) (by kernel_rfl) ((uP _ _ _).trans ?_)
            refine ae rfl (ae (by show(b.2==(1:Int))=true;simp[O5]) ?_)
            refine aa (BJ hG ((aB (p++q,s.1.2) (ar b) a).1,(dG s.1.2 b.1,(bJ s.2 (ar b,a),()))) b zD ga.1 (by have:=ga.2;show(bJ s.2 (ar b,a)).length≤_;omega)) ?_
            refine aK (j:=0) (by kernel_rfl) ((uP _ _ _).trans ?_)
            exact af rfl rfl
        exact r3 _ ek2
      exact r2 _ e1
    exact r1 _ dk2
  have bo:∀y:ab,((y.1.1==(bz o).1)&&(y.1.2==(bz o).2))=decide (y.1=bz o):=fun y=>EH y.1 (bz o)
  by_cases h0:r0.1=bz o
  · rw[if_pos h0]
    refine⟨0,((J4 s o r1 r0).1,((J4 s o r1 r0).2,(G1 s.2 r1 r0,()))),go _ _ (af Bi (aa g0 (aa g1 (af b01 (aa g0 (aa g1 (ae ((bo r0).trans (decide_eq_true h0)) ?_))))))),rfl⟩
    refine aU ((bo r0).trans (decide_eq_true h0)) (af rfl ?_)
    exact tail r1 r0 (by rw[hr];exact List.Perm.swap _ _ _) (fun k=>Tt k.symm)
  rw[if_neg h0]
  by_cases h1:r1.1=bz o
  · rw[if_pos h1]
    refine⟨0,((J4 s o r0 r1).1,((J4 s o r0 r1).2,(G1 s.2 r0 r1,()))),go _ _ (af Bi (aa g0 (aa g1 (af b01 (aa g0 (aa g1 (af ((bo r0).trans (decide_eq_false h0)) ?_))))))),rfl⟩
    refine aU ((bo r1).trans (decide_eq_true h1)) (af rfl ?_)
    exact tail r0 r1 (by rw[hr]) Tt
  rw[if_neg h1]
  refine⟨14,aD s,go _ _ (af Bi (aa g0 (aa g1 (af b01 (aa g0 (aa g1 (af ((bo r0).trans (decide_eq_false h0)) ?_))))))),rfl⟩
  exact aU ((bo r1).trans (decide_eq_false h1)) (ae rfl rfl)
end Go.Vs
namespace Go.Vs
open Go.Proofs
theorem BM{row:List ab}(hn:row.Nodup){i j:Nat}{hi:i<row.length}{hj:j<row.length}(h:row[i]=row[j]):i=j:=by
 rcases Nat.lt_trichotomy i j with k|k|k
 ·exact absurd h (List.pairwise_iff_getElem.1 hn i j hi hj k)
 ·exact k
 ·exact absurd h.symm (List.pairwise_iff_getElem.1 hn j i hj hi k)
theorem BN{row:List ab}(hn:row.Nodup){i j:Nat}{x:ab}(hi:row[i]? = some x)(hj:row[j]? = some x):i=j:=by
 obtain⟨h1,h2⟩:=List.getElem?_eq_some_iff.1 hi
 obtain⟨h3,h4⟩:=List.getElem?_eq_some_iff.1 hj
 exact BM hn (h2.trans h4.symm)
theorem E4(row:List ab):∃j,j≤row.length∧cK row=CQ row j:=by
 by_cases h0:row.length=0
 ·have:row=[]:=by simpa using h0
  subst this;exact⟨0,by simp,rfl⟩
 ·exact⟨fm row row 0 0,Nat.le_of_lt (nW row row 0 0 (by omega) (by omega)),rfl⟩
theorem Pz{row:List ab}(hn:row.Nodup){k:Nat}{x:ab}(hk:row[k]? = some x):idx x row 0=(k:Int):=by
 have:=G5 (d:=x) (row:=row) (k:=k) (i:=0) hk (fun j hj he=>by have:=BN hn hk he;omega)
 omega
end Go.Vs
namespace Go.Vs
open Go.Proofs
variable {G:(f:FuncId)→(g:aL)→Option (g.A→Option g.B)}
theorem Kk(l:List aj)(x:ID):l.any (fun w=>decide (w.1=x))=(aN l x).isSome:=by
 rw[Bool.eq_iff_iff,List.any_eq_true];unfold aN;rw[List.find?_isSome]
theorem Kl(l:List an)(x:ID):l.any (fun w=>decide (w.1=x))=(aQ l x).isSome:=by
 rw[Bool.eq_iff_iff,List.any_eq_true];unfold aQ;rw[List.find?_isSome]
theorem Km(s:StateT)(o:aO):iF (su (aD s) o).1 (su (aD s) o).2=wx s o:=by
 unfold su wx VJ VL
 rw[Kk,Kl]
 by_cases ho:uW o=true
 ·have hv:s.1.1.map (nY o)=s.1.1:=by
   conv=>rhs;rw[←List.map_id s.1.1]
   exact List.map_congr_left fun u hu=>by unfold nY;rw[if_neg (by rw[ho];simp)];rfl
  rw[if_pos ho,ho,hv]
  show iF (if(aQ s.1.2 (ba o)).isSome=true then _ else _:Int×az).1 (if(aQ s.1.2 (ba o)).isSome=true then _ else _:Int×az).2=_
  cases (aQ s.1.2 (ba o)).isSome<;>rfl
 ·have ma:uW o=false:=by simpa using ho
  have he:s.1.2.map (sq o)=s.1.2:=by
   conv=>rhs;rw[←List.map_id s.1.2]
   exact List.map_congr_left fun u hu=>by unfold sq;rw[if_neg (by rw[ma];simp)];rfl
  rw[if_neg ho,ma,he]
  show iF (if(aN s.1.1 (ba o)).isSome=true then _ else _:Int×az).1 (if(aN s.1.1 (ba o)).isSome=true then _ else _:Int×az).2=_
  cases (aN s.1.1 (ba o)).isSome<;>rfl
theorem M7(hG:HG G)(w:az)(o:aO)(hk:7≤o.1)(hv:bQ w.1)(he:cT w.2.1)(QQ:w.1.length≤50000000)(hle:w.2.1.length≤50000000) :
  FX G 131 CD ((o,()),(w,()))=some (((su w o).1,()),((su w o).2,())):=by
 refine aJ (fn:=Tryz.f131) (hG _ _ rfl) (by kernel_rfl) (by kernel_rfl) ((GH _ _ _).trans ?_)
 have kn:∀k:Int,k<7→(o.1==k)=false:=fun k nc=>vZ (by omega)
 refine af (kn 1 (by omega)) (af (kn 2 (by omega)) (af (kn 3 (by omega)) (af (kn 4 (by omega)) (af (kn 5 (by omega)) (af (kn 6 (by omega)) ?_)))))
 exact aa (ZM hG w o hv he QQ hle) rfl
def opL(x:ID)(e:Bool)(t:ByteArray):aO:=(7,(x,(zI,(zI,(zC,(zC,(e,(t,0))))))))
def opA(x:ID)(e:Bool)(n:Int):aO:=(8,(x,(zI,(zI,(zC,(zC,(e,(e0,n))))))))
theorem Sd:J8 0:=by unfold J8;omega
structure Lay(s t:StateT):Prop where
 v:bQ t.1.1
 e:cT t.1.2
 sm:Sm t.1
 g:t.2.length≤50000000
end Go.Vs
namespace Go.Vs
open Go.Proofs
variable {G:(f:FuncId)→(g:aL)→Option (g.A→Option g.B)}
theorem E5(l:List an):(ends l).length=2*l.length:=by
 induction l with
 |nil=>rfl
 |cons e r ih=>rw[jn];simp[ih];omega
theorem PA{l:List aj}{v:aj}(h:v∈l):v.2.1.length≤(aq l).length:=by
 obtain⟨a,b,rfl⟩:=List.append_of_mem h
 rw[mW,jl];simp;omega
theorem Wf.ve{d:ak}(h:Wf d):∀v∈d.1,v.2.1.length≤80:=fun v hv=>by
 have h1:=PA hv
 have h2:=h.pd.length_eq
 have h3:=h.ne
 rw[E5]at h2;omega
theorem Wf.sm{d:ak}(h:Wf d):Sm d:=⟨by have:=h.nv;omega,by have:=h.ne;omega,fun v hv=>by have:=h.ve v hv;omega⟩
theorem Wf.small{d:ak}(h:Wf d):Sv d.1:=⟨by have:=h.nv;omega,fun v hv=>by have:=h.ve v hv;omega⟩
theorem Kn(s:StateT)(o:aO):iF (oG (aD s) (ba o,([],(e0,0)))).1 (oG (aD s) (ba o,([],(e0,0)))).2=pT s o:=by
 by_cases hh:(aN s.1.1 (ba o)).isSome=true
 ·have a:oG (aD s) (ba o,([],(e0,0)))=(12,aD s):=if_pos hh
  have b:pT s o=(zS,(12,())):=if_pos hh
  rw[a,b];rfl
 by_cases h:24≤s.1.1.length
 ·have a:oG (aD s) (ba o,([],(e0,0)))=(3,aD s):=(if_neg hh).trans (if_pos h)
  have b:pT s o=(zS,(3,())):=(if_neg hh).trans (if_pos h)
  rw[a,b];rfl
 ·have a:oG (aD s) (ba o,([],(e0,0)))=(0,(eX (ba o,([],(e0,0))) (aD s).1,(aD s).2)):=(if_neg hh).trans (if_neg h)
  have b:pT s o=(((eX (ba o,([],(e0,0))) s.1.1,s.1.2),s.2),(0,())):=(if_neg hh).trans (if_neg h)
  rw[a,b];rfl
theorem Ko{s:StateT}(h:ed s)(o:aO):iF (Bx (aD s) (ba o)).1 (Bx (aD s) (ba o)).2=zd s o:=by
 unfold Bx zd ck
 show iF (match aN s.1.1 (ba o) with|none=>(13,aD s)|some v=>if 0<v.2.1.length then(14,aD s) else(0,(fw s.1.1 (ba o),(s.1.2,(s.2,())))):Int×az).1 (match aN s.1.1 (ba o) with|none=>(13,aD s)|some v=>if 0<v.2.1.length then(14,aD s) else(0,(fw s.1.1 (ba o),(s.1.2,(s.2,())))):Int×az).2=_
 cases aN s.1.1 (ba o) with
 |none=>rfl
 |some v =>
  simp only
  by_cases hl:0<v.2.1.length
  ·rw[if_pos hl,if_pos hl];rfl
  ·rw[if_neg hl,if_neg hl]
   unfold bF
   rw[w6 h.d.ge];rfl
def II(s:StateT)(o:aO):StateT×(Int×Unit) :=
 if o.1=1 then pT s o else if o.1=2 then zd s o else if o.1=3 then rB s o else if o.1=4 then GZ s o else if o.1=5 then n3 s o else if o.1=6 then n6 s o else wx s o
theorem Kp(s:StateT)(o:aO):oO s o=if cO o≠0 then(zS,(cO o,())) else II s o:=rfl
theorem M8(hG:HG G)(s:StateT)(o:aO)(h:ed s)(hm:cO o=0)(h3:o.1=3→∃(e:Int) (w:az),FX G 154 nQ ((o,()),(aD s,()))=some ((e,()),(w,()))∧iF e w=rB s o) :
  ∃(e:Int) (w:az),FX G 131 CD ((o,()),(aD s,()))=some ((e,()),(w,()))∧iF e w=II s o:=by
 have hk:=zt hm
 have PB:=h.d.small
 have Oy:=h.d.nv;have aV:=h.d.ne
 have start:∀(e:Int) (w:az),dr 131 CD Tryz.f131 (FX G) (LX G 131 CD Tryz.f131) ((o,()),(aD s,()))=some ((e,()),(w,()))→FX G 131 CD ((o,()),(aD s,()))=some ((e,()),(w,())):=fun e w a =>
  aJ (fn:=Tryz.f131) (hG _ _ rfl) (by kernel_rfl) (by kernel_rfl) a
 unfold II
 by_cases h1:o.1=1
 ·rw[if_pos h1]
  refine⟨_,_,start _ _ ((GH _ _ _).trans (ae (De h1) (aa (R5 hG (aD s) (ba o,([],(e0,0))) h.d.sv PB.n) rfl))),?_⟩
  exact Kn s o
 rw[if_neg h1]
 by_cases h2:o.1=2
 ·rw[if_pos h2]
  refine⟨_,_,start _ _ ((GH _ _ _).trans (af (vZ h1) (ae (De h2) (aa (ZE hG (aD s) o h.d.sv PB.n) rfl)))),?_⟩
  exact Ko h o
 rw[if_neg h2]
 by_cases KU:o.1=3
 ·rw[if_pos KU]
  obtain⟨e,w,a,b⟩:=h3 KU
  exact⟨e,w,start _ _ ((GH _ _ _).trans (af (vZ h1) (af (vZ h2) (ae (De KU) (aa a rfl))))),b⟩
 rw[if_neg KU]
 by_cases VZ:o.1=4
 ·rw[if_pos VZ]
  obtain⟨e,w,a,b⟩:=ZP hG s o h PB
  exact⟨e,w,start _ _ ((GH _ _ _).trans (af (vZ h1) (af (vZ h2) (af (vZ KU) (ae (De VZ) (aa a rfl)))))),b⟩
 rw[if_neg VZ]
 by_cases Sb:o.1=5
 ·rw[if_pos Sb]
  obtain⟨e,w,a,b⟩:=ZT hG s o h PB hm Sb
  exact⟨e,w,start _ _ ((GH _ _ _).trans (af (vZ h1) (af (vZ h2) (af (vZ KU) (af (vZ VZ) (ae (De Sb) (aa a rfl))))))),b⟩
 rw[if_neg Sb]
 by_cases hk6:o.1=6
 ·rw[if_pos hk6]
  obtain⟨e,w,a,b⟩:=ZZ hG s o h PB
  exact⟨e,w,start _ _ ((GH _ _ _).trans (af (vZ h1) (af (vZ h2) (af (vZ KU) (af (vZ VZ) (af (vZ Sb) (ae (De hk6) (aa a rfl)))))))),b⟩
 rw[if_neg hk6]
 refine⟨_,_,M7 hG (aD s) o (by omega) h.d.sv h.d.se PB.n (by show s.1.2.length≤_;omega),?_⟩
 exact Km s o
end Go.Vs
namespace Go.Vs
open Go.Proofs
variable {G:(f:FuncId)→(g:aL)→Option (g.A→Option g.B)}
def fO(G:(f:FuncId)→(g:aL)→Option (g.A→Option g.B))(o:aO):Prop:=∀s,ed s→cO o=0→o.1=3→∃(e:Int) (w:az),FX G 154 nQ ((o,()),(aD s,()))=some ((e,()),(w,()))∧iF e w=rB s o
theorem M9{s:StateT}{o:aO}(hm:cO o=0):II s o=oO s o:=by rw[Kp,if_neg (by simp[hm])]
theorem aad(hG:HG G)(l:List aO)(hl:l.length≤1073741824)(hm:∀o∈l,cO o=0)(h3:∀o∈l,fO G o):∀(n i:Nat) (s:StateT),i+n=l.length→ed s →
  LX G 103 D4 Tryz.f103 yK (bA Tryz.prog 103 0) ((l,(((l.length:Nat):Int),((i:Int),()))),((zW,(aD s,())),()))=some (ER (l.drop i) s,()):=by
 intro n
 induction n with
 |zero =>
  intro i s hi hw
  refine aK (j:=0) (by kernel_rfl) ((Mc _ _ _).trans ?_)
  refine af (decide_eq_false (show ¬((i:Int)<((l.length:Nat):Int)) by omega)) ?_
  rw[List.drop_eq_nil_of_le (by omega)];rfl
 |succ n ih =>
  intro i s hi hw
  have aE:i<l.length:=by omega
  have ho:=hm l[i] (List.getElem_mem aE)
  obtain⟨e,w,h1,h2⟩:=M8 hG s l[i] hw ho (h3 _ (List.getElem_mem aE) s hw ho)
  rw[M9 ho]at h2
  refine aK (j:=0) (by kernel_rfl) ((Mc _ _ _).trans ?_)
  refine ae (bG aE) (aa (bN (List.getElem?_eq_getElem aE)) ?_)
  refine aa h1 ?_
  rw[List.drop_eq_getElem_cons aE,ER]
  have Cd:=hw.one l[i]
  by_cases he:e=0
  ·have e1:iF e w=(wZ w,(0,())):=if_neg (by simp[he])
   rw[e1]at h2
   rw[←h2]at Cd ⊢
   rw[if_neg (by simp)]
   refine af (show(e != 0)=false by simp[he]) ?_
   have:=ih (i+1) (wZ w) (by omega) Cd
   rw[←aP aE hl]at this
   exact this
  ·have e1:iF e w=(zS,(e,())):=if_pos he
   rw[e1]at h2
   rw[←h2,if_pos he]
   exact ae (show(e != 0)=true by simp[he]) rfl
theorem Se(hG:HG G)(s:StateT)(l:List aO)(hw:ed s)(hl:l.length≤1073741824)(hm:∀o∈l,cO o=0)(h3:∀o∈l,fO G o):FX G 103 D4 ((s,l,()),())=some (ER l s,()):=by
 have hn:=hw.n
 refine aJ (fn:=Tryz.f103) (hG _ _ rfl) (by kernel_rfl) (by kernel_rfl) ((YZ _ _ _).trans ?_)
 refine aa (VM hG s.1 hw.d.sm) ?_
 refine aa (R4 (hG _ _ rfl) s.2 (by omega)) ?_
 have:=aad hG l hl hm h3 l.length 0 s (by omega) hw
 rw[List.drop_zero]at this
 exact this
theorem E6(l:List aO)(h:mP l=0):∀o∈l,cO o=0:=by
 induction l with
 |nil=>intro o ho;simp at ho
 |cons o r ih =>
  rw[mP]at h
  by_cases ho:cO o=0
  ·rw[if_neg (fun k=>k ho)]at h
   intro p hp
   rcases List.mem_cons.1 hp with e|hp
   ·rw[e];exact ho
   ·exact ih h p hp
  ·rw[if_pos ho]at h;exact absurd h ho
theorem Hc{l:List aO}(h:iD l=0):∀o∈l,cO o=0:=by
 unfold iD at h
 split at h
 ·exact E6 l h
 ·cases h
theorem V5(hG:HG G)(s:StateT)(l:List aO)(hw:ed s)(hl:l.length≤1073741824)(hf:∀o∈l,Fit o)(h3:∀o∈l,fO G o):FX G 63 GG ((s,l,()),())=some (cy s l,()):=by
 refine aJ (fn:=Tryz.f63) (hG _ _ rfl) (by kernel_rfl) (by kernel_rfl) ((YW _ _ _).trans ?_)
 refine aa (ZL hG l hl hf) ?_
 unfold cy
 by_cases hm:iD l=0
 ·rw[if_neg (by simp[hm])]
  refine af (show(iD l != 0)=false by simp[hm]) ?_
  exact aa (Se hG s l hw hl (Hc hm) h3) rfl
 ·rw[if_pos hm]
  exact ae (show(iD l != 0)=true by simp[hm]) rfl
theorem V6(hG:HG G)(s:StateT)(l:List aO)(hw:ed s)(hl:l.length≤1073741824)(hf:∀o∈l,Fit o)(h3:∀o∈l,fO G o):FX G 102 AA ((s,l,()),())=some ((ji s l,()),()):=by
 have hn:=hw.n
 refine aJ (fn:=Tryz.f102) (hG _ _ rfl) (by kernel_rfl) (by kernel_rfl) ((YX _ _ _).trans ?_)
 refine aa (V5 hG s l hw hl hf h3) ?_
 unfold ji
 by_cases he:(cy s l).2.1=0
 ·rw[if_neg (by simp[he])]
  exact af (show((cy s l).2.1 != 0)=false by simp[he]) rfl
 ·rw[if_pos he]
  refine ae (show((cy s l).2.1 != 0)=true by simp[he]) ?_
  refine aa (VM hG s.1 hw.d.sm) ?_
  exact aa (R4 (hG _ _ rfl) s.2 (by omega)) rfl
end Go.Vs
