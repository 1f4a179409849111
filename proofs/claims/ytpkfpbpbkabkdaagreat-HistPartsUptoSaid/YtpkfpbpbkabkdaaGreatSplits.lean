/- Edges cut and split, vertices smoothed: what the program computes. -/
import Derived.Test.YtpkfpbpbkabkdaaGreatFormed
import Derived.Test.YtpkfpbpbkabkdaaGreatTop
set_option linter.unusedVariables false
set_option linter.unusedSimpArgs false
namespace Go.Vs
open Go.Proofs
variable {G:(f:FuncId)→(g:aJ)→Option (g.A→Option g.B)}
theorem U9(hG:HG G)(v:aw)(x:ab):FX G 232 Dg ((v,x,()),())=some ((mW v.1 x,()),()):=by
 refine au (fn:=Tryz.f232) (hG _ _ rfl) (by kernel_rfl) (by kernel_rfl) ((Zv _ _ _).trans ?_)
 exact aa (U5 hG v.1 x) rfl
def dr(l:List aw)(x:ab):Nat:=l.countP fun v=>kK v.1 x
theorem E7(l:List aw)(x:ab):dr l x≤l.length:=List.countP_le_length
theorem wH{l:List aw}{x:ab}(h:∀v∈l,kK v.1 x=false):dr l x=0:=by
 unfold dr;rw[List.countP_eq_zero];intro v hv;simp[h v hv]
theorem DH{x:ab}:∀{l:List aw},iC l→∀(k:Nat) (v:aw),l[k]? = some v→(kK v.1 x=true↔k<dr l x)
 |[],_,k,v,h=>by simp at h
 |w::r,hs,k,v,h=>by
  have hw:∀{u:aw},u∈r→kK w.1 u.1=true:=fun {u} hu=>List.rel_of_pairwise_cons hs hu
  have hr:iC r:=hs.of_cons
  by_cases aF:kK w.1 x=true
  ·have e:dr (w::r) x=dr r x+1:=by unfold dr;rw[List.countP_cons_of_pos (by simpa using aF)]
   cases k with
   |zero=>simp at h;subst h;simp[aF,e]
   |succ k=>have:=DH (x:=x) hr k v (by simpa using h);rw[this,e];omega
  ·have hn:∀u∈w::r,kK u.1 x=false:=fun u hu=>by
    rcases List.mem_cons.1 hu with rfl|hu
    ·simpa using aF
    ·rw[Bool.eq_false_iff];intro h2;exact aF (gq (hw hu) h2)
   rw[wH hn,hn v (List.mem_of_getElem? h)]
   simp
theorem QI(hG:HG G)(l:List aw)(x:ab)(hs:iC l)(hl:l.length≤50000000):∀(n i j:Nat),j-i≤n→i≤dr l x→dr l x≤j→j≤l.length →
  LX G 233231 jc Tryz.f231 ic (aN Tryz.prog 231 0) ((l,(((l.length:Nat):Int),((i:Int),((j:Int),())))),(((x,()),()),()))=some (((((dr l x:Nat):Int),(decide ((l[dr l x]?).map (·.1)=some x),())):Int×(Bool×Unit)),()):=by
 have tI:=E7 l x
 have fin:∀(i j:Nat),¬(i<j)→i≤dr l x→dr l x≤j→LX G 233231 jc Tryz.f231 ic (aN Tryz.prog 231 0) ((l,(((l.length:Nat):Int),((i:Int),((j:Int),())))),(((x,()),()),()))=some (((((dr l x:Nat):Int),(decide ((l[dr l x]?).map (·.1)=some x),())):Int×(Bool×Unit)),()):=fun i j zy h1 h2=>by
  have hi:i=dr l x:=by omega
  subst hi
  refine ar (j:=0) (by kernel_rfl) ((A5 _ _ _).trans ?_)
  refine af (decide_eq_false (show ¬(((dr l x:Nat):Int)<(j:Int)) by omega)) ?_
  by_cases hc:dr l x<l.length
  ·have hx:l[dr l x]? = some l[dr l x]:=List.getElem?_eq_getElem hc
   refine ae (aW hc) ?_
   refine aa (aI hx) ?_
   refine aa (U9 hG l[dr l x] x) ?_
   refine congrArg (fun b:Bool=>some ((((dr l x:Nat):Int),(b,())),())) ?_
   rw[hx]
   unfold mW
   by_cases he:l[dr l x].1=x
   ·simp[he]
   ·simp[he];split<;>simp
  ·refine af (decide_eq_false (show ¬(((dr l x:Nat):Int)<((l.length:Nat):Int)) by omega)) ?_
   refine congrArg (fun b:Bool=>some ((((dr l x:Nat):Int),(b,())),())) ?_
   rw[List.getElem?_eq_none (by omega)];simp
 intro n
 induction n with
 |zero=>intro i j zy h1 h2 h3;exact fin i j (by omega) h1 h2
 |succ n ih =>
  intro i j zy h1 h2 h3
  by_cases aF:i<j
  case neg=>exact fin i j aF h1 h2
  refine ar (j:=0) (by kernel_rfl) ((A5 _ _ _).trans ?_)
  refine ae (decide_eq_true (show((i:Int)<(j:Int)) by omega)) ?_
  refine af rfl ?_
  have hm:=JI (i:=i) (j:=j) (by omega) (by omega)
  have hh:(i+j) / 2<l.length:=by omega
  have hx:l[(i+j) / 2]? = some l[(i+j) / 2]:=List.getElem?_eq_getElem hh
  have nC:=DH (x:=x) hs ((i+j) / 2) _ hx
  refine aa (show aX l (IntKind.wrap .i64 (kO .u64 (IntKind.wrap .u64 (IntKind.wrap .i64 ((i:Int)+(j:Int)))) (1:Int)))=some l[(i+j) / 2] by rw[hm];exact aI hx) ?_
  refine aa (U9 hG l[(i+j) / 2] x) ?_
  by_cases ho:kK l[(i+j) / 2].1 x=true
  ·refine ae (decide_eq_true ((yL _ _).2 ho)) ?_
   have hc:=nC.1 ho
   have hw:IntKind.wrap .i64 (IntKind.wrap .i64 (kO .u64 (IntKind.wrap .u64 (IntKind.wrap .i64 ((i:Int)+(j:Int)))) (1:Int))+1)=(((i+j) / 2+1:Nat):Int):=by
    rw[hm];exact aG hh (by omega)
   have:=ih ((i+j) / 2+1) j (by omega) (by omega) h2 h3
   rw[←hw]at this
   exact this
  ·refine af (decide_eq_false (fun h=>ho ((yL _ _).1 h))) ?_
   have hc:¬(i+j) / 2<dr l x:=fun h=>ho (nC.2 h)
   have:=ih i ((i+j) / 2) (by omega) h1 (by omega) (by omega)
   rw[←hm]at this
   exact this
theorem QJ(hG:HG G)(l:List aw)(x:ab)(hs:iC l)(hl:l.length≤50000000) :
  FX G 233231 jc ((l,x,()),())=some (((((dr l x:Nat):Int),(decide ((l[dr l x]?).map (·.1)=some x),())):Int×(Bool×Unit)),()):=by
 refine au (fn:=Tryz.f231) (hG _ _ rfl) (by kernel_rfl) (by kernel_rfl) ((P3 _ _ _).trans ?_)
 exact QI hG l x hs hl l.length 0 l.length (by omega) (by omega) (E7 l x) (Nat.le_refl _)
theorem HJ(g:aw):∀{l:List aw},iC l→kV g l=if(l[dr l g.1]?).map (·.1)=some g.1 then l.set (dr l g.1) g else l.take (dr l g.1)++(g::l.drop (dr l g.1))
 |[],_=>rfl
 |w::r,hs=>by
  have hw:∀{u:aw},u∈r→kK w.1 u.1=true:=fun {u} hu=>List.rel_of_pairwise_cons hs hu
  have hr:iC r:=List.Pairwise.of_cons hs
  by_cases aF:kK w.1 g.1=true
  ·have e:dr (w::r) g.1=dr r g.1+1:=by unfold dr;rw[List.countP_cons_of_pos (by simpa using aF)]
   have bq:w.1≠g.1:=fun k=>by rw[k,dG]at aF;cases aF
   have qg:¬mW g.1 w.1≤0:=fun k=>by
    rcases oX.1 k with k|k
    ·exact bq k.symm
    ·have:=gq aF k;rw[dG]at this;cases this
   have ih:=HJ g hr
   rw[e,kV,if_neg qg,if_pos bq,ih]
   simp only[List.getElem?_cons_succ,List.set_cons_succ,List.take_succ_cons,List.drop_succ_cons,List.cons_append]
   split<;>rfl
  ·have hn:∀u∈w::r,kK u.1 g.1=false:=fun u hu=>by
    rcases List.mem_cons.1 hu with rfl|hu
    ·simpa using aF
    ·rw[Bool.eq_false_iff];intro h2;exact aF (gq (hw hu) h2)
   rw[wH hn]
   by_cases he:w.1=g.1
   ·have WH:mW g.1 w.1≤0:=oX.2 (.inl he.symm)
    have h1:mX g (w::r)=r:=by
     have:mX g (w::r)=mX g r:=by unfold mX;rw[List.filter_cons_of_neg (by simp[he])]
     rw[this]
     exact rL (fun q hq k=>by have:=hw hq;rw[k,he,dG]at this;cases this)
    rw[kV,if_pos WH,h1,if_pos (by simp[he])];rfl
   ·have IA:kK g.1 w.1=true:=wE (by simpa using aF) he
    have WH:mW g.1 w.1≤0:=oX.2 (.inr IA)
    have h1:mX g (w::r)=w::r:=rL (fun q hq k=>by
     rcases List.mem_cons.1 hq with rfl|hq
     ·exact he k
     ·have:=gq IA (hw hq);rw[k,dG]at this;cases this)
    rw[kV,if_pos WH,h1,if_neg (by simp[he])];rfl
theorem DI{x:ab}:∀{l:List aw},iC l→(fV l x).isSome=decide ((l[dr l x]?).map (·.1)=some x)
 |[],_=>rfl
 |w::r,hs=>by
  have hw:∀{u:aw},u∈r→kK w.1 u.1=true:=fun {u} hu=>List.rel_of_pairwise_cons hs hu
  have hr:iC r:=List.Pairwise.of_cons hs
  rw[oY]
  by_cases aF:kK w.1 x=true
  ·have e:dr (w::r) x=dr r x+1:=by unfold dr;rw[List.countP_cons_of_pos (by simpa using aF)]
   have bq:w.1≠x:=fun k=>by rw[k,dG]at aF;cases aF
   rw[e,if_neg bq,DI hr,List.getElem?_cons_succ]
  ·have hn:∀u∈w::r,kK u.1 x=false:=fun u hu=>by
    rcases List.mem_cons.1 hu with rfl|hu
    ·simpa using aF
    ·rw[Bool.eq_false_iff];intro h2;exact aF (gq (hw hu) h2)
   rw[wH hn]
   by_cases he:w.1=x
   ·simp[he]
   ·have IA:kK x w.1=true:=wE (by simpa using aF) he
    have:fV r x=none:=by
     unfold fV
     have:(List.find? (fun q=>decide (q.1=x)) r)=none:=by
      rw[List.find?_eq_none];intro q hq k
      have k:q.1=x:=by simpa using k
      have:=gq IA (hw hq);rw[k,dG]at this;cases this
     rw[this];rfl
    rw[if_neg he,this];simp[he]
theorem aaY(hG:HG G)(l:List aw)(g:aw)(hs:iC l)(hl:l.length≤50000000):FX G 215 GR ((l,g,()),())=some ((bK l g,()),()):=by
 refine au (fn:=Tryz.f215) (hG _ _ rfl) (by kernel_rfl) (by kernel_rfl) ((Zl _ _ _).trans ?_)
 refine aa (QJ hG l g.1 hs hl) ?_
 refine aa (WC (hG _ _ rfl) l hl) ?_
 unfold bK
 rw[DI hs,HJ g hs]
 have hc:dr l g.1≤l.length:=E7 l g.1
 by_cases h:(l[dr l g.1]?).map (·.1)=some g.1
 ·rw[decide_eq_true h,if_neg (fun k=>by cases k.1),if_pos h]
  refine ae rfl ?_
  obtain⟨u,hu,_⟩:∃u,l[dr l g.1]? = some u∧u.1=g.1:=by
   cases hq:l[dr l g.1]? with
   |none=>rw[hq]at h;cases h
   |some u=>rw[hq]at h;exact⟨u,rfl,by simpa using h⟩
  have aF:=(List.getElem?_eq_some_iff.1 hu).1
  refine ae (dq (eT _) (aW aF)) ?_
  exact aa hu rfl
 ·rw[decide_eq_false h,if_neg h]
  refine af rfl ?_
  by_cases h4:400≤l.length
  ·rw[if_pos ⟨rfl,h4⟩]
   exact af (decide_eq_false (show ¬((l.length:Nat):Int)<400 by omega)) rfl
  ·rw[if_neg (fun k=>h4 k.2)]
   refine ae (decide_eq_true (show((l.length:Nat):Int)<400 by omega)) ?_
   have kI:pX l ((dr l g.1:Nat):Int) [g]=true:=by
    unfold pX
    rw[decide_eq_true (show(0:Int)≤((dr l g.1:Nat):Int) by omega),decide_eq_true (show((dr l g.1:Nat):Int)≤((l.length:Nat):Int) by omega)]
    rw[fits (by simp;omega)];rfl
   refine ae kI ?_
   have e:fN l ((dr l g.1:Nat):Int) [g]=l.take (dr l g.1)++(g::l.drop (dr l g.1)):=by unfold fN;simp
   exact congrArg (fun r:List aw=>some ((r,()),())) e
theorem DJ(hG:HG G)(w:aQ)(x to:ab)(hs:iC w.2.2.1)(hl:w.2.2.1.length≤50000000):FX G 183 Ar ((x,to,()),(w,()))=some ((),((w.1,(w.2.1,(bK w.2.2.1 (x,to),()))),())):=by
 refine au (fn:=Tryz.f183) (hG _ _ rfl) (by kernel_rfl) (by kernel_rfl) ((Y2 _ _ _).trans ?_)
 exact aa (aaY hG w.2.2.1 (x,to) hs hl) rfl
theorem DK(hG:HG G)(w:aQ)(x:ab)(hw:Rw w.1)(hl:w.1.length≤50000000)(hr:∀v∈w.1,v.2.1.length≤50000000){k:Nat}{v:ag}(hk:w.1[k]? = some v)(hx:x∈v.2.1) :
  FX G 185 lN ((x,()),(w,()))=some (((some ((⟨0,by decide⟩:Fin 1),k)),()),(w,())):=by
 refine au (fn:=Tryz.f185) (hG _ _ rfl) (by kernel_rfl) (by kernel_rfl) ((Y4 _ _ _).trans ?_)
 have NU:=(List.getElem?_eq_some_iff.1 hk).1
 have loop:∀(n i:Nat),i+n=k→LX G 185 lN Tryz.f185 uJ (aN Tryz.prog 185 0) ((((w.1.length:Nat):Int),((i:Int),())),((w,((x,()),())),()))=some (((some ((⟨0,by decide⟩:Fin 1),k)),()),(w,())):=by
  intro n
  induction n with
  |zero =>
   intro i hi
   have hi:i=k:=by omega
   subst hi
   refine ar (j:=0) (by kernel_rfl) ((KH _ _ _).trans ?_)
   refine ae (aW NU) (ae (dq (eT _) (aW NU)) (aa hk ?_))
   refine aa (Dy hG v.2.1 x (by have:=hr v (List.mem_of_getElem? hk);omega)) ?_
   exact ae (decide_eq_true hx) rfl
  |succ n ih =>
   intro i hi
   have n8:i<w.1.length:=by omega
   have hu:w.1[i]? = some w.1[i]:=List.getElem?_eq_getElem n8
   have C2:x∉w.1[i].2.1:=fun hxi=>by
    have h1:w.1[i]=v:=hw.one (List.mem_of_getElem? hk) (List.getElem_mem n8) hx hxi
    have h2:=jL hw.s hk rfl
    have h3:=jL hw.s (x:=v.1) hu (by rw[h1])
    omega
   refine ar (j:=0) (by kernel_rfl) ((KH _ _ _).trans ?_)
   refine ae (aW n8) (ae (dq (eT _) (aW n8)) (aa hu ?_))
   refine aa (Dy hG w.1[i].2.1 x (by have:=hr _ (List.getElem_mem n8);omega)) ?_
   refine af (decide_eq_false C2) ?_
   have:=ih (i+1) (by omega)
   rw[←aG n8 (by omega)]at this
   exact this
 exact loop k 0 (by omega)
theorem JP{l:List ag}{k:Nat}{v:ag}(hs:bX l)(hk:l[k]? = some v)(r:List ab):l.set k (v.1,(r,v.2.2))=l.map (rC v.1 r):=by
 have h:=kr hs (List.mem_of_getElem? hk)
 rw[jL hs hk rfl]
 refine(HC hs h (rC v.1 r) (fun u=>(u.1,(r,u.2.2))) (fun u hu=>?_) (fun u hu=>?_)).symm
 ·unfold rC;rw[if_pos hu]
 ·unfold rC;rw[if_neg hu]
theorem qK{l:List ag}{x:ab}(h:x∈aq l):∃(k:Nat) (v:ag),l[k]? = some v∧x∈v.2.1∧v∈l:=by
 obtain⟨v,hv,hx⟩:=br.1 h
 obtain⟨k,hk,he⟩:=List.getElem_of_mem hv
 exact⟨k,v,by rw[List.getElem?_eq_getElem hk,he],hx,hv⟩
structure Sv(l:List ag):Prop where
 n:l.length≤50000000
 r:∀v∈l,v.2.1.length≤50000000
theorem QK{n:Int}(h:n=0∨n=1):eP .xor .i64 n 1=IntKind.wrap .i64 (1-n):=by
 rcases h with rfl|rfl<;>decide
theorem HK(hG:G 188 nF=none)(x:ab)(h:x.2=0∨x.2=1):FX G 188 nF ((x,()),())=some ((ao x,()),()):=by
 refine au (fn:=Tryz.f188) hG (by kernel_rfl) (by kernel_rfl) ((Y7 _ _ _).trans ?_)
 exact congrArg (fun n:Int=>some ((((x.1,n):ab),()),())) (QK h)
theorem M0{d:aj}(h:Rw d.1){v:ag}{x:ab}(hv:v∈d.1)(hx:x∈v.2.1):c9 d x=if(jf v.2.1 x).1=x.1 then(if(jf v.2.1 (jf v.2.1 x)).1=x.1 then zD else jf v.2.1 (jf v.2.1 x)) else jf v.2.1 x:=by
 unfold c9
 have e:bJ d ((cm d x).getD zI)=v.2.1:=by
  unfold cm;rw[ji h hv hx];exact jO h.s hv
 simp only[e]
 by_cases h1:(jf v.2.1 x).1=x.1
 ·simp only[if_pos h1]
 ·simp only[if_neg h1]
theorem Va(hG:HG G)(w:aQ)(x:ab)(hw:Rw w.1)(hs:Sv w.1)(hx:x∈aq w.1)(e:List ah):FX G 184 As ((x,()),(w,()))=some ((c9 (w.1,e) x,()),(w,())):=by
 obtain⟨k,v,hk,kE,hv⟩:=qK hx
 have OT:=hs.r v hv
 refine au (fn:=Tryz.f184) (hG _ _ rfl) (by kernel_rfl) (by kernel_rfl) ((Y3 _ _ _).trans ?_)
 rw[M0 (d:=(w.1,e)) hw hv kE]
 have prev:∀y:ab,FX G 140 De ((v.2.1,y,()),())=some (((jf v.2.1 y),((Ho (dF v.2.1 y (v.2.1.length-1))).2)),()):=fun y=>by
  refine(aaV hG v.2.1 y (by omega)).trans ?_
  have:(Ho (dF v.2.1 y (v.2.1.length-1))).1=jf v.2.1 y:=yI _
  rw[←this]
 have gD:∀y:ab,((y.1.1==x.1.1)&&(y.1.2==x.1.2))=decide (y.1=x.1):=fun y=>jn y.1 x.1
 refine ar (j:=0) (by kernel_rfl) ((EI _ _ _).trans ?_)
 refine ae rfl (aa (DK hG w x hw hs.n hs.r hk kE) ?_)
 refine sK rfl (ae rfl (aa hk ?_))
 refine aa (prev x) ?_
 by_cases h1:(jf v.2.1 x).1=x.1
 ·rw[if_pos h1]
  refine bj ((gD _).trans (decide_eq_true h1)) ?_
  refine ar (j:=0) (by kernel_rfl) ((EI _ _ _).trans ?_)
  refine ae rfl (aa (DK hG w x hw hs.n hs.r hk kE) ?_)
  refine sK rfl (ae rfl (aa hk ?_))
  refine aa (prev (jf v.2.1 x)) ?_
  by_cases h2:(jf v.2.1 (jf v.2.1 x)).1=x.1
  ·rw[if_pos h2]
   refine bj ((gD _).trans (decide_eq_true h2)) ?_
   refine ar (j:=0) (by kernel_rfl) ((EI _ _ _).trans ?_)
   exact af rfl rfl
  ·rw[if_neg h2]
   exact bj ((gD _).trans (decide_eq_false h2)) rfl
 ·rw[if_neg h1]
  exact bj ((gD _).trans (decide_eq_false h1)) rfl
theorem HL{l:List ah}{x:ID}(hs:dg l)(h:(aU l x).isSome=true)(hl:l.length≤50000000) :
  jo l ((bY l x:Nat):Int) (IntKind.wrap .i64 (((bY l x:Nat):Int)+1))=true∧di l ((bY l x:Nat):Int) (IntKind.wrap .i64 (((bY l x:Nat):Int)+1))=cT l x:=by
 obtain⟨e,he⟩:=Option.isSome_iff_exists.1 h
 have aF:=(List.getElem?_eq_some_iff.1 (lY hs he)).1
 have hw:IntKind.wrap .i64 (((bY l x:Nat):Int)+1)=((bY l x+1:Nat):Int):=aG aF (by omega)
 constructor
 ·rw[hw]
  unfold jo
  rw[decide_eq_true (show(0:Int)≤((bY l x:Nat):Int) by omega),decide_eq_true (show((bY l x:Nat):Int)<((bY l x+1:Nat):Int) by omega),decide_eq_true (show((bY l x+1:Nat):Int)≤((l.length:Nat):Int) by omega),fits (by omega)];rfl
 ·rw[hw,wC hs h]
  unfold di;simp only[Int.toNat_natCast]
theorem QL{l:List ag}{x:ID}(hs:bX l)(h:(aR l x).isSome=true)(hl:l.length≤50000000) :
  jo l ((bD l x:Nat):Int) (IntKind.wrap .i64 (((bD l x:Nat):Int)+1))=true∧di l ((bD l x:Nat):Int) (IntKind.wrap .i64 (((bD l x:Nat):Int)+1))=dv l x:=by
 obtain⟨e,he⟩:=Option.isSome_iff_exists.1 h
 have aF:=(List.getElem?_eq_some_iff.1 (c8 hs he)).1
 have hw:IntKind.wrap .i64 (((bD l x:Nat):Int)+1)=((bD l x+1:Nat):Int):=aG aF (by omega)
 constructor
 ·rw[hw]
  unfold jo
  rw[decide_eq_true (show(0:Int)≤((bD l x:Nat):Int) by omega),decide_eq_true (show((bD l x:Nat):Int)<((bD l x+1:Nat):Int) by omega),decide_eq_true (show((bD l x+1:Nat):Int)≤((l.length:Nat):Int) by omega),fits (by omega)];rfl
 ·rw[hw,wz hs h]
  unfold di;simp only[Int.toNat_natCast]
theorem Sv.re{l:List ag}(h:Sv l)(x:ID){r:List ab}(hr:r.length≤50000000):Sv (l.map (rC x r)):=by
 refine⟨by simp;exact h.n,fun w hw=>?_⟩
 obtain⟨u,hu,rfl⟩:=List.mem_map.1 hw
 unfold rC
 split
 ·exact hr
 ·exact h.r u hu
theorem By{row:List ab}(d:ab):(gR row d).length≤row.length:=by
 unfold gR;rw[fU];exact List.length_filter_le _ _
theorem Lc{w:aQ}{x:ab}(hw:Rw w.1){k:Nat}{v:ag}(hk:w.1[k]? = some v)(hx:x∈v.2.1)(e:List ah):w.1.set k (v.1,(gR v.2.1 x,v.2.2))=(aB (w.1,e) x).1:=by
 rw[jP (d:=(w.1,e)) hw (List.mem_of_getElem? hk) hx]
 exact JP hw.s hk _
theorem af1(hG:HG G)(s:StateT)(o:ba)(h:eU s)(hs:Sv s.1.1) :
  ∃(e:Int) (w:aQ),FX G 155 Am ((o,()),(aH s,()))=some ((e,()),(w,()))∧jh e w=E0 s o:=by
 have bq:=h.d.ne
 unfold E0
 cases hf:(aU s.1.2 (aV o)).isSome with
 |false =>
  refine⟨13,aH s,?_,?_⟩
  ·refine au (fn:=Tryz.f155) (hG _ _ rfl) (by kernel_rfl) (by kernel_rfl) ((YO _ _ _).trans ?_)
   refine aa (nQ hG (aH s) (aV o) h.d.se (by show s.1.2.length≤_;omega)) ?_
   exact bj ((da (l:=s.1.2) h.d.se).trans hf) rfl
  ·rw[if_pos (show(gD s.1 (aV o)).isSome=false from hf)];rfl
 |true =>
  rw[if_neg (show ¬(gD s.1 (aV o)).isSome=false by show ¬(aU s.1.2 (aV o)).isSome=false;rw[hf];simp)]
  obtain⟨x,hx⟩:∃x:ab,x=(aV o,0):=⟨_,rfl⟩
  obtain⟨y,hy⟩:∃y:ab,y=(aV o,1):=⟨_,rfl⟩
  have hxd:x∈aq s.1.1:=by rw[hx];exact h.d.mZ hf (.inl rfl)
  have hyd:y∈aq s.1.1:=by rw[hy];exact h.d.mZ hf (.inr rfl)
  have g1:=jR h.g h.n (x,c9 s.1 x)
  have hn:=h.n
  obtain⟨p1,q1⟩:=fa h.d.rw hxd
  have af3:y∈aq (aB s.1 x).1:=by
   rcases List.mem_cons.1 (p1.mem_iff.1 hyd) with k|k
   ·rw[hx,hy]at k;cases k
   ·exact k
  have NB:=jQ (jQ h.d.gv x) y
  refine⟨0,((aB (aB s.1 x) y).1,(cT s.1.2 (aV o),(bK (bK s.2 (x,c9 s.1 x)) (y,c9 s.1 y),()))),?_,?_⟩
  ·refine au (fn:=Tryz.f155) (hG _ _ rfl) (by kernel_rfl) (by kernel_rfl) ((YO _ _ _).trans ?_)
   refine aa (nQ hG (aH s) (aV o) h.d.se (by show s.1.2.length≤_;omega)) ?_
   refine bj ((da (l:=s.1.2) h.d.se).trans hf) (af rfl ?_)
   have af4:FX G 179 Ao ((aV o,()),())=some ((x,y,()),()):=by
    rw[hx,hy];exact au (fn:=Tryz.f179) (hG _ _ rfl) (by kernel_rfl) (by kernel_rfl) (UK _ _ _)
   refine aa af4 ?_
   refine ar (j:=0) (by kernel_rfl) ((Jq _ _ _).trans ?_)
   refine ae rfl (ae rfl (aa (a:=x) rfl ?_))
   refine aa (Va hG (aH s) x h.d.rw hs hxd s.1.2) ?_
   refine aa (DJ hG (aH s) x (c9 s.1 x) h.g (by show s.2.length≤_;omega)) ?_
   refine ar (j:=0) (by kernel_rfl) ((Jq _ _ _).trans ?_)
   refine ae rfl (ae rfl (aa (a:=y) rfl ?_))
   refine aa (Va hG (s.1.1,(s.1.2,(bK s.2 (x,c9 s.1 x),()))) y h.d.rw hs hyd s.1.2) ?_
   refine aa (DJ hG (s.1.1,(s.1.2,(bK s.2 (x,c9 s.1 x),()))) y (c9 s.1 y) g1.1 (by have:=g1.2;show(bK s.2 (x,c9 s.1 x)).length≤_;omega)) ?_
   refine ar (j:=0) (by kernel_rfl) ((Jq _ _ _).trans ?_)
   refine af rfl ?_
   generalize bK (bK s.2 (x,c9 s.1 x)) (y,c9 s.1 y)=gg
   obtain⟨k,v,hk,kE,hv⟩:=qK hxd
   refine ar (j:=1) (by kernel_rfl) ((Js _ _ _).trans ?_)
   refine ae rfl (ae rfl (aa (a:=x) rfl ?_))
   refine aa (DK hG (s.1.1,(s.1.2,(gg,()))) x h.d.rw hs.n hs.r hk kE) ?_
   refine sK rfl (ae rfl (aa hk ?_))
   refine aa (U7 hG v.2.1 x (h.d.rw.ring hv) (hs.r v hv)) ?_
   refine aa hk ?_
   have e1:s.1.1.set k (v.1,(gR v.2.1 x,v.2.2))=(aB s.1 x).1:=Lc (w:=(s.1.1,(s.1.2,(gg,())))) h.d.rw hk kE s.1.2
   have Fs:Sv (aB s.1 x).1:=by
    rw[jP h.d.rw hv kE]
    exact hs.re _ (Nat.le_trans (By x) (hs.r v hv))
   obtain⟨k2,v2,n6,Sc,wY⟩:=qK af3
   have e2:(aB s.1 x).1.set k2 (v2.1,(gR v2.2.1 y,v2.2.2))=(aB (aB s.1 x) y).1:=Lc (w:=((aB s.1 x).1,(s.1.2,(gg,())))) q1 n6 Sc (aB s.1 x).2
   have rest:∀a:List ag,a=(aB s.1 x).1→LX G 155 Am Tryz.f155 wg (aN Tryz.prog 155 1) ((((bY s.1.2 (aV o):Nat):Int),((2:Int),((1:Int),()))),(((a,(s.1.2,(gg,()))),()),([x,y],())))=some (((0:Int),()),(((aB (aB s.1 x) y).1,(cT s.1.2 (aV o),(gg,()))),())):=by
    intro a ha
    subst ha
    refine ar (j:=1) (by kernel_rfl) ((Js _ _ _).trans ?_)
    refine ae rfl (ae rfl (aa (a:=y) rfl ?_))
    refine aa (DK hG ((aB s.1 x).1,(s.1.2,(gg,()))) y q1 Fs.n Fs.r n6 Sc) ?_
    refine sK rfl (ae rfl (aa n6 ?_))
    refine aa (U7 hG v2.2.1 y (q1.ring wY) (Fs.r v2 wY)) ?_
    refine aa n6 ?_
    have last:∀b:List ag,b=(aB (aB s.1 x) y).1→LX G 155 Am Tryz.f155 wg (aN Tryz.prog 155 1) ((((bY s.1.2 (aV o):Nat):Int),((2:Int),((2:Int),()))),(((b,(s.1.2,(gg,()))),()),([x,y],())))=some (((0:Int),()),(((aB (aB s.1 x) y).1,(cT s.1.2 (aV o),(gg,()))),())):=by
     intro b hb
     subst hb
     refine ar (j:=1) (by kernel_rfl) ((Js _ _ _).trans ?_)
     obtain⟨d1,d2⟩:=HL h.d.se hf (by omega)
     refine af rfl (ae d1 ?_)
     exact congrArg (fun l:List ah=>some (((0:Int),()),(((aB (aB s.1 x) y).1,(l,(gg,()))),()))) d2
    exact last _ e2
   exact rest _ e1
  ·rw[←hx,←hy]
   unfold aS
   rw[ve NB]
   rfl
end Go.Vs
namespace Go.Vs
open Go.Proofs
variable {G:(f:FuncId)→(g:aJ)→Option (g.A→Option g.B)}
theorem JQ{n:Int}(h0:0≤n)(h3:n≤3):eP .xor .i64 1 (eP .and .i64 n 1)=IntKind.wrap .i64 (1-Int.tmod n 2)∧kO .i64 n 1=IntKind.wrap .i64 (Int.tdiv n 2):=by
 have:n=0∨n=1∨n=2∨n=3:=by omega
 rcases this with rfl|rfl|rfl|rfl<;>exact⟨by decide,by decide⟩
theorem HM{l:List ag}{x:ab}(hw:Rw l){k:Nat}{v:ag}(hk:l[k]? = some v)(hx:x∈v.2.1)(y:ab)(e:List ah):l.set k (v.1,(js v.2.1 x y,v.2.2))=(aC (l,e) x y).1:=by
 rw[Bq (d:=(l,e)) hw y (List.mem_of_getElem? hk) hx]
 exact JP hw.s hk _
theorem af5(hG:HG G)(s:StateT)(o:ba)(h:eU s)(hs:Sv s.1.1)(hm:cf o=0)(WI:o.1=5) :
    ∃(e:Int) (w:aQ),FX G 156 ya ((o,()),(aH s,()))=some ((e,()),(w,()))∧jh e w=lW s o:=by
  have bq:=h.d.ne;have So:=h.d.nv
  obtain⟨m1,m2,m3,m4⟩:=DE hm WI
  obtain⟨s1,s2⟩:=HI m3 m4
  obtain⟨c1,c2⟩:=JQ m3 m4
  have key:∀(e:Int) (w:aQ),FX G 156 ya ((o,()),(aH s,()))=some ((e,()),(w,()))→jh e w=lW s o→∃(e:Int) (w:aQ),FX G 156 ya ((o,()),(aH s,()))=some ((e,()),(w,()))∧jh e w=lW s o:=fun e w a b=>⟨e,w,a,b⟩
  have start:∀(e:Int) (w:aQ),bS 156 ya Tryz.f156 (FX G) (LX G 156 ya Tryz.f156) ((o,()),(aH s,()))=some ((e,()),(w,()))→FX G 156 ya ((o,()),(aH s,()))=some ((e,()),(w,())):=fun e w a =>
    au (fn:=Tryz.f156) (hG _ _ rfl) (by kernel_rfl) (by kernel_rfl) a
  unfold lW
  cases hf:(aU s.1.2 (aV o)).isSome with
  |false =>
    refine⟨13,aH s,start _ _ ((S4 _ _ _).trans ?_),?_⟩
    · refine aa (nQ hG (aH s) (aV o) h.d.se (by show s.1.2.length≤_;omega)) ?_
      refine aa (pC hG (aH s) (eO o) h.d.sv (by show s.1.1.length≤_;omega)) ?_
      refine aa (nQ hG (aH s) (aZ o) h.d.se (by show s.1.2.length≤_;omega)) ?_
      exact bj ((da (l:=s.1.2) h.d.se).trans hf) rfl
    · rw[if_pos (show(gD s.1 (aV o)).isSome=false from hf)];rfl
  |true =>
  rw[if_neg (show ¬(gD s.1 (aV o)).isSome=false by show ¬(aU s.1.2 (aV o)).isSome=false;rw[hf];simp)]
  cases SJ:(aR s.1.1 (eO o)).isSome with
  |true =>
    refine⟨12,aH s,start _ _ ((S4 _ _ _).trans ?_),?_⟩
    · refine aa (nQ hG (aH s) (aV o) h.d.se (by show s.1.2.length≤_;omega)) ?_
      refine aa (pC hG (aH s) (eO o) h.d.sv (by show s.1.1.length≤_;omega)) ?_
      refine aa (nQ hG (aH s) (aZ o) h.d.se (by show s.1.2.length≤_;omega)) ?_
      refine bj ((da (l:=s.1.2) h.d.se).trans hf) (af rfl ?_)
      exact ae ((fz (l:=s.1.1) h.d.sv).trans SJ) rfl
    · rw[if_pos (show(bp s.1 (eO o)).isSome=true from SJ)];rfl
  |false =>
  rw[if_neg (show ¬(bp s.1 (eO o)).isSome=true by show ¬(aR s.1.1 (eO o)).isSome=true;rw[SJ];simp)]
  cases S8:(aU s.1.2 (aZ o)).isSome with
  |true =>
    refine⟨12,aH s,start _ _ ((S4 _ _ _).trans ?_),?_⟩
    · refine aa (nQ hG (aH s) (aV o) h.d.se (by show s.1.2.length≤_;omega)) ?_
      refine aa (pC hG (aH s) (eO o) h.d.sv (by show s.1.1.length≤_;omega)) ?_
      refine aa (nQ hG (aH s) (aZ o) h.d.se (by show s.1.2.length≤_;omega)) ?_
      refine bj ((da (l:=s.1.2) h.d.se).trans hf) (af rfl ?_)
      refine af ((fz (l:=s.1.1) h.d.sv).trans SJ) ?_
      exact ae ((da (l:=s.1.2) h.d.se).trans S8) rfl
    · rw[if_pos (show(gD s.1 (aZ o)).isSome=true from S8)];rfl
  |false =>
  rw[if_neg (show ¬(gD s.1 (aZ o)).isSome=true by show ¬(aU s.1.2 (aZ o)).isSome=true;rw[S8];simp)]
  have af6:aR s.1.1 (eO o)=none:=by simpa using SJ
  have af7:aU s.1.2 (aZ o)=none:=by simpa using S8
  obtain⟨m,Nv⟩:∃m:ab,m=IB o:=⟨_,rfl⟩
  obtain⟨kk,Sw⟩:∃m:ab,m=Ft o:=⟨_,rfl⟩
  have hmd:m∈aq s.1.1:=by rw[Nv];exact h.d.mZ hf s1
  have Iz:ao kk∉aq s.1.1:=by rw[Sw];exact h.d.yN af7 _
  obtain⟨p1,q1⟩:=oW h.d.rw hmd Iz
  have n6:kk.2=0∨kk.2=1:=by rw[Sw];exact s2
  obtain⟨k,v,hk,kE,hv⟩:=qK hmd
  have e1:s.1.1.set k (v.1,(js v.2.1 m (ao kk),v.2.2))=(aC s.1 m (ao kk)).1:=HM h.d.rw hk kE _ s.1.2
  have hlen:(aC s.1 m (ao kk)).1.length=s.1.1.length:=by unfold aC;exact fb _ _ _
  have TA:aR (aC s.1 m (ao kk)).1 (eO o)=none:=by
    unfold aC Vs.b6
    rw[nP (qI _ _),af6];rfl
  have eM:((aV o,eP .xor .i64 1 (eP .and .i64 (oN o) 1)):ab)=m:=by rw[Nv,c1];rfl
  have eK:((aZ o,kO .i64 (oN o) 1):ab)=kk:=by rw[Sw,c2];rfl
  have go:∀(e:Int) (w:aQ),(∀a:List ag,a=(aC s.1 m (ao kk)).1→((FX G 152 GG (((eO o,(cI [m,kk],(e0,(0:Int)))),()),((a,(s.1.2,(s.2,()))),()))).bind fun(mg:((Int×Unit)×(aQ×Unit))) =>
       cond (mg.1.1 != (0:Int))
        (some (mg.1,((mg.2.1.1,(mg.2.1.2.1,mg.2.1.2.2)),())))
        ((FX G 178 xu ((aZ o,()),((mg.2.1.1,(mg.2.1.2.1,mg.2.1.2.2)),()))).bind fun(pM:((Int×Unit)×(aQ×Unit))) =>
        some (pM.1,((pM.2.1.1,(pM.2.1.2.1,pM.2.1.2.2)),()))))=some ((e,()),(w,())))→FX G 156 ya ((o,()),(aH s,()))=some ((e,()),(w,())):=fun e w rest=>by
    refine start _ _ ((S4 _ _ _).trans ?_)
    refine aa (nQ hG (aH s) (aV o) h.d.se (by show s.1.2.length≤_;omega)) ?_
    refine aa (pC hG (aH s) (eO o) h.d.sv (by show s.1.1.length≤_;omega)) ?_
    refine aa (nQ hG (aH s) (aZ o) h.d.se (by show s.1.2.length≤_;omega)) ?_
    refine bj ((da (l:=s.1.2) h.d.se).trans hf) (af rfl ?_)
    refine af ((fz (l:=s.1.1) h.d.sv).trans SJ) ?_
    refine af ((da (l:=s.1.2) h.d.se).trans S8) ?_
    refine af rfl ?_
    have body:∀mm k2:ab,mm=m→k2=kk→((FX G 185 lN ((mm,()),(aH s,()))).bind fun(y4:(((Option ((Fin 1)×Nat))×Unit)×(aQ×Unit))) =>
      pW y4.1.1
       (none) fun(p5:((Fin 1)×Nat)) =>
      cond (p5.1.val==0)
       (((y4.2.1.1)[p5.2]?).bind fun(y6:ag) =>
       (FX G 188 nF ((k2,()),())).bind fun(y7:((ab×Unit)×Unit)) =>
       (FX G 187 sD ((y6.2.1,(mm,((y7.1.1.1,y7.1.1.2),()))),())).bind fun(y8:(((List ab)×Unit)×Unit)) =>
       ((y4.2.1.1)[p5.2]?).bind fun(y9:ag) =>
       (FX G 169 qw (([mm,k2],()),())).bind fun(oR:(((List ab)×Unit)×Unit)) =>
       (FX G 152 GG (((eO o,(oR.1.1,((⟨#[]⟩:ByteArray),(0:Int)))),()),(((List.set y4.2.1.1 p5.2 (y9.1,(y8.1.1,y9.2.2))),(y4.2.1.2.1,y4.2.1.2.2)),()))).bind fun(mg:((Int×Unit)×(aQ×Unit))) =>
       cond (mg.1.1 != (0:Int))
        (some (mg.1,((mg.2.1.1,(mg.2.1.2.1,mg.2.1.2.2)),())))
        ((FX G 178 xu ((aZ o,()),((mg.2.1.1,(mg.2.1.2.1,mg.2.1.2.2)),()))).bind fun(pM:((Int×Unit)×(aQ×Unit))) =>
        some (pM.1,((pM.2.1.1,(pM.2.1.2.1,pM.2.1.2.2)),()))))
       (none))=some ((e,()),(w,())):=by
      intro mm k2 af8 af9
      subst af8 af9
      refine aa (DK hG (aH s) mm h.d.rw hs.n hs.r hk kE) ?_
      refine sK rfl (ae rfl (aa hk ?_))
      refine aa (HK (hG _ _ rfl) k2 n6) ?_
      refine aa (U8 hG v.2.1 mm (ao k2) (hs.r v hv)) ?_
      refine aa hk ?_
      refine aa (Dz hG [mm,k2] (by simp)) ?_
      exact rest _ e1
    exact body _ _ eM eK
  have aga:24≤s.1.1.length→pG ((aC s.1 m (ao kk)).1,(s.1.2,(s.2,()))) (eO o,(cI [m,kk],(e0,0)))=(3,((aC s.1 m (ao kk)).1,(s.1.2,(s.2,())))):=fun hb=>by
    unfold pG
    rw[if_neg (by rw[show aR ((aC s.1 m (ao kk)).1,(s.1.2,(s.2,()))).1 ((eO o,(cI [m,kk],(e0,0))):ag).1=none from TA];simp)]
    rw[if_pos (by show 24≤(aC s.1 m (ao kk)).1.length;omega)]
  have WJ:¬24≤s.1.1.length→pG ((aC s.1 m (ao kk)).1,(s.1.2,(s.2,()))) (eO o,(cI [m,kk],(e0,0)))=(0,(dW (eO o,(cI [m,kk],(e0,0))) (aC s.1 m (ao kk)).1,(s.1.2,(s.2,())))):=fun hb=>by
    unfold pG
    rw[if_neg (by rw[show aR ((aC s.1 m (ao kk)).1,(s.1.2,(s.2,()))).1 ((eO o,(cI [m,kk],(e0,0))):ag).1=none from TA];simp)]
    rw[if_neg (by show ¬24≤(aC s.1 m (ao kk)).1.length;omega)]
  by_cases hb:24≤s.1.1.length
  · refine⟨3,((aC s.1 m (ao kk)).1,(s.1.2,(s.2,()))),go _ _ (fun a ha=>?_),?_⟩
    · subst ha
      refine aa (WD hG ((aC s.1 m (ao kk)).1,(s.1.2,(s.2,()))) (eO o,(cI [m,kk],(e0,0))) q1.s (by show(aC s.1 m (ao kk)).1.length≤_;omega)) ?_
      rw[aga hb]
      exact ae rfl rfl
    · rw[if_pos hb];rfl
  rw[if_neg hb]
  have hE:sL (dW (eO o,(cI [m,kk],(e0,0))) (aC s.1 m (ao kk)).1,(s.1.2,(s.2,()))) (aZ o)=if 40≤s.1.2.length then(3,(dW (eO o,(cI [m,kk],(e0,0))) (aC s.1 m (ao kk)).1,(s.1.2,(s.2,())))) else(0,(dW (eO o,(cI [m,kk],(e0,0))) (aC s.1 m (ao kk)).1,(dp (aZ o,(e0,0)) s.1.2,(s.2,())))):=by
    unfold sL
    rw[if_neg (by show ¬(aU s.1.2 (aZ o)).isSome=true;rw[S8];simp)]
  have fin:FX G 156 ya ((o,()),(aH s,()))=some (((sL (dW (eO o,(cI [m,kk],(e0,0))) (aC s.1 m (ao kk)).1,(s.1.2,(s.2,()))) (aZ o)).1,()),((sL (dW (eO o,(cI [m,kk],(e0,0))) (aC s.1 m (ao kk)).1,(s.1.2,(s.2,()))) (aZ o)).2,())):=by
    refine go _ _ (fun a ha=>?_)
    subst ha
    refine aa (WD hG ((aC s.1 m (ao kk)).1,(s.1.2,(s.2,()))) (eO o,(cI [m,kk],(e0,0))) q1.s (by show(aC s.1 m (ao kk)).1.length≤_;omega)) ?_
    rw[WJ hb]
    refine af rfl ?_
    exact aa (U3 hG (dW (eO o,(cI [m,kk],(e0,0))) (aC s.1 m (ao kk)).1,(s.1.2,(s.2,()))) (aZ o) h.d.se (by show s.1.2.length≤_;omega)) rfl
  rw[hE]at fin
  by_cases hb4:40≤s.1.2.length
  · rw[if_pos hb4]at fin ⊢
    exact⟨_,_,fin,rfl⟩
  · rw[if_neg hb4]at fin ⊢
    refine⟨_,_,fin,?_⟩
    rw[Nv,Sw];rfl
theorem agb(hG:HG G)(s:StateT)(o:ba)(h:eU s)(hs:Sv s.1.1) :
    ∃(e:Int) (w:aQ),FX G 157 qv ((o,()),(aH s,()))=some ((e,()),(w,()))∧jh e w=kW s o:=by
  have bq:=h.d.ne;have So:=h.d.nv;have hgn:=h.n
  have start:∀(e:Int) (w:aQ),bS 157 qv Tryz.f157 (FX G) (LX G 157 qv Tryz.f157) ((o,()),(aH s,()))=some ((e,()),(w,()))→FX G 157 qv ((o,()),(aH s,()))=some ((e,()),(w,())):=fun e w a =>
    au (fn:=Tryz.f157) (hG _ _ rfl) (by kernel_rfl) (by kernel_rfl) a
  unfold kW
  cases hf:aR s.1.1 (aV o) with
  |none =>
    refine⟨13,aH s,start _ _ ((YP _ _ _).trans ?_),?_⟩
    · refine aa (pC hG (aH s) (aV o) h.d.sv (by show s.1.1.length≤_;omega)) ?_
      exact bj ((fz (l:=s.1.1) h.d.sv).trans (by rw[hf])) rfl
    · rw[show bp s.1 (aV o)=none from hf];rfl
  |some v =>
  have hfs:(aR s.1.1 (aV o)).isSome=true:=by rw[hf];rfl
  have hv:=gm hf
  have hvi:=kq hf
  have mP:=c8 h.d.sv hf
  have aF:=(List.getElem?_eq_some_iff.1 mP).1
  have hgr:=h.d.rw
  have go:∀(e:Int) (w:aQ),(cond ((((List.length v.2.1):Nat):Int) != (2:Int)) (some (((14:Int),()),(aH s,()))) _=some ((e,()),(w,())))→FX G 157 qv ((o,()),(aH s,()))=some ((e,()),(w,())):=fun e w rest=>by
    refine start _ _ ((YP _ _ _).trans ?_)
    refine aa (pC hG (aH s) (aV o) h.d.sv (by show s.1.1.length≤_;omega)) ?_
    refine bj ((fz (l:=s.1.1) h.d.sv).trans hfs) (af rfl ?_)
    refine ae (dq (eT _) (aW aF)) (aa mP ?_)
    exact rest
  rw[show bp s.1 (aV o)=some v from hf]
  by_cases sf:v.2.1.length=2
  case neg =>
    refine⟨14,aH s,go _ _ (ae (by rw[bne_iff_ne];omega) rfl),?_⟩
    show jh 14 (aH s)=(match v.2.1 with | [r0,r1]=>jX s o r0 r1|_=>(zS,(14,())))
    split
    · rename_i hr;rw[hr]at sf;exact absurd rfl sf
    · rfl
  obtain⟨r0,r1,hr⟩:∃r0 r1,v.2.1=[r0,r1]:=by
    match hq:v.2.1,sf with
    |[a,b],_=>exact⟨a,b,rfl⟩
  have Da:(((List.length v.2.1:Nat):Int) != (2:Int))=false:=by rw[sf];rfl
  have g0:aX v.2.1 (0:Int)=some r0:=by rw[hr];rfl
  have g1:aX v.2.1 (1:Int)=some r1:=by rw[hr];rfl
  show ∃(e:Int) (w:aQ),FX G 157 qv ((o,()),(aH s,()))=some ((e,()),(w,()))∧jh e w=(match v.2.1 with | [r0,r1]=>jX s o r0 r1|_=>(zS,(14,())))
  rw[hr]
  show ∃(e:Int) (w:aQ),FX G 157 qv ((o,()),(aH s,()))=some ((e,()),(w,()))∧jh e w=jX s o r0 r1
  unfold jX
  by_cases XR:r0.1=r1.1
  · refine⟨14,aH s,go _ _ (af Da (aa g0 (aa g1 (ae ((jn r0.1 r1.1).trans (decide_eq_true XR)) rfl)))),?_⟩
    rw[if_pos XR];rfl
  rw[if_neg XR]
  have b01:=(jn r0.1 r1.1).trans (decide_eq_false XR)
  have tail:∀a b:ab,v.2.1.Perm [a,b]→a.1≠b.1→((FX G 188 nF ((b,()),())).bind fun(y7:((ab×Unit)×Unit)) =>
        cond (jo s.1.1 ((bD s.1.1 (aV o):Nat):Int) (IntKind.wrap .i64 (((bD s.1.1 (aV o):Nat):Int)+(1:Int))))
         ((FX G 185 lN (((y7.1.1.1,y7.1.1.2),()),(((di s.1.1 ((bD s.1.1 (aV o):Nat):Int) (IntKind.wrap .i64 (((bD s.1.1 (aV o):Nat):Int)+(1:Int)))),(s.1.2,(s.2,()))),()))).bind fun(y8:(((Option ((Fin 1)×Nat))×Unit)×(aQ×Unit))) =>
         pW y8.1.1
          (none) fun(p9:((Fin 1)×Nat)) =>
         cond (p9.1.val==0)
          (((y8.2.1.1)[p9.2]?).bind fun(oR:ag) =>
          (FX G 187 sD ((oR.2.1,((y7.1.1.1,y7.1.1.2),(a,()))),())).bind fun(mg:(((List ab)×Unit)×Unit)) =>
          ((y8.2.1.1)[p9.2]?).bind fun(pM:ag) =>
          (FX G 182 my ((b.1,()),(((List.set y8.2.1.1 p9.2 (pM.1,(mg.1.1,pM.2.2))),(y8.2.1.2.1,y8.2.1.2.2)),()))).bind fun(kS:((Int×(Bool×Unit))×(aQ×Unit))) =>
          cond (jo kS.2.1.2.1 kS.1.1 (IntKind.wrap .i64 (kS.1.1+(1:Int))))
           (LX G 157 qv Tryz.f157 mV (aN Tryz.prog 157 0) (((0:Int),()),(((kS.2.1.1,((di kS.2.1.2.1 kS.1.1 (IntKind.wrap .i64 (kS.1.1+(1:Int)))),kS.2.1.2.2)),((a,()),((b,()),(((y7.1.1.1,y7.1.1.2),()),())))),())))
           (none))
          (none))
         (none))=some (((0:Int),()),(((JG s o a b).1,((JG s o a b).2,(Hz s.2 a b,()))),())):=by
    intro a b hp B6
    obtain⟨p,q,h1,_,h2,_⟩:=qJ h.d.sv hv
    have pd:(aq s.1.1).Perm (a::b::aq (p++q)):=by
      have:=(iB p q v).trans (List.Perm.append_right _ hp)
      rw[←h1]at this;exact this
    have Ld:dv s.1.1 (aV o)=p++q:=by rw[←hvi];exact h2
    have MZ:aS s.1 (aV o) zI=(p++q,s.1.2):=by unfold aS;rw[Ld,vd h.d.ge]
    have Fq:=pd.nodup_iff.1 hgr.n
    have hbm:b∈ends s.1.2:=h.d.pd.mem_iff.1 (pd.mem_iff.2 (by simp))
    obtain⟨e,he,Yu,Cf⟩:=eL.1 hbm
    have Eo:(aU s.1.2 b.1).isSome=true:=by
      unfold aU;rw[List.find?_isSome];exact⟨e,he,by simpa using Yu⟩
    obtain⟨_,ho⟩:=iD Cf
    have WG:ao b∈aq (p++q):=by
      have h3:ao b∈aq s.1.1:=h.d.mZ (s:=(ao b).2) Eo (by rcases ho with⟨_,k⟩|⟨_,k⟩<;>omega)
      rcases List.mem_cons.1 (pd.mem_iff.1 h3) with k|k
      · exact absurd (congrArg Prod.fst k) (fun k=>B6 k.symm)
      rcases List.mem_cons.1 k with k|k
      · have:=congrArg Prod.snd k;omega
      · exact k
    have TB:Rw (p++q):=⟨by rw[←h2];exact oU h.d.sv,(List.nodup_cons.1 (List.nodup_cons.1 Fq).2).2⟩
    have bz:∀u∈p++q,u∈s.1.1:=fun u hu=>by
      rw[h1]
      rcases List.mem_append.1 hu with k|k
      · exact List.mem_append_left _ k
      · exact List.mem_append_right _ (List.mem_cons_of_mem _ k)
    have Fs:Sv (p++q):=⟨by
      have:=hs.n;rw[h1]at this;simp at this ⊢;omega,fun u hu=>hs.r u (bz u hu)⟩
    obtain⟨dk1,dk2⟩:=QL h.d.sv hfs (by omega)
    rw[Ld]at dk2
    obtain⟨k,u,hk,hxu,hu⟩:=qK WG
    have e1:(p++q).set k (u.1,(js u.2.1 (ao b) a,u.2.2))=(aC (p++q,s.1.2) (ao b) a).1:=HM TB hk hxu _ s.1.2
    have NB:∀w∈(aC (p++q,s.1.2) (ao b) a).1,GV w:=tC (d:=(p++q,s.1.2)) (fun w hw=>h.d.gv w (bz w hw)) _ _
    have eD:JG s o a b=((aC (p++q,s.1.2) (ao b) a).1,cT s.1.2 b.1):=by
      unfold JG
      rw[MZ]
      unfold aS
      rw[ve NB];rfl
    have ga:=jR h.g h.n ((b.1,0),pP a b 0)
    rw[eD]
    refine aa (HK (hG _ _ rfl) b Cf) ?_
    refine ae dk1 ?_
    have r1:∀l1:List ag,l1=p++q→((FX G 185 lN ((ao b,()),((l1,(s.1.2,(s.2,()))),()))).bind fun(y8:(((Option ((Fin 1)×Nat))×Unit)×(aQ×Unit))) =>
         pW y8.1.1
          (none) fun(p9:((Fin 1)×Nat)) =>
         cond (p9.1.val==0)
          (((y8.2.1.1)[p9.2]?).bind fun(oR:ag) =>
          (FX G 187 sD ((oR.2.1,(ao b,(a,()))),())).bind fun(mg:(((List ab)×Unit)×Unit)) =>
          ((y8.2.1.1)[p9.2]?).bind fun(pM:ag) =>
          (FX G 182 my ((b.1,()),(((List.set y8.2.1.1 p9.2 (pM.1,(mg.1.1,pM.2.2))),(y8.2.1.2.1,y8.2.1.2.2)),()))).bind fun(kS:((Int×(Bool×Unit))×(aQ×Unit))) =>
          cond (jo kS.2.1.2.1 kS.1.1 (IntKind.wrap .i64 (kS.1.1+(1:Int))))
           (LX G 157 qv Tryz.f157 mV (aN Tryz.prog 157 0) (((0:Int),()),(((kS.2.1.1,((di kS.2.1.2.1 kS.1.1 (IntKind.wrap .i64 (kS.1.1+(1:Int)))),kS.2.1.2.2)),((a,()),((b,()),((ao b,()),())))),())))
           (none))
          (none))=some (((0:Int),()),(((aC (p++q,s.1.2) (ao b) a).1,(cT s.1.2 b.1,(Hz s.2 a b,()))),())):=by
      intro l1 hl1
      subst hl1
      refine aa (DK hG (p++q,(s.1.2,(s.2,()))) (ao b) TB Fs.n Fs.r hk hxu) ?_
      refine sK rfl (ae rfl (aa hk ?_))
      refine aa (U8 hG u.2.1 (ao b) a (Fs.r u hu)) ?_
      refine aa hk ?_
      have r2:∀l2:List ag,l2=(aC (p++q,s.1.2) (ao b) a).1→((FX G 182 my ((b.1,()),((l2,(s.1.2,(s.2,()))),()))).bind fun(kS:((Int×(Bool×Unit))×(aQ×Unit))) =>
          cond (jo kS.2.1.2.1 kS.1.1 (IntKind.wrap .i64 (kS.1.1+(1:Int))))
           (LX G 157 qv Tryz.f157 mV (aN Tryz.prog 157 0) (((0:Int),()),(((kS.2.1.1,((di kS.2.1.2.1 kS.1.1 (IntKind.wrap .i64 (kS.1.1+(1:Int)))),kS.2.1.2.2)),((a,()),((b,()),((ao b,()),())))),())))
           (none))=some (((0:Int),()),(((aC (p++q,s.1.2) (ao b) a).1,(cT s.1.2 b.1,(Hz s.2 a b,()))),())):=by
        intro l2 sf
        subst sf
        refine aa (nQ hG ((aC (p++q,s.1.2) (ao b) a).1,(s.1.2,(s.2,()))) b.1 h.d.se (by show s.1.2.length≤_;omega)) ?_
        obtain⟨ek1,ek2⟩:=HL h.d.se Eo (by omega)
        refine ae ek1 ?_
        have r3:∀l3:List ah,l3=cT s.1.2 b.1→(LX G 157 qv Tryz.f157 mV (aN Tryz.prog 157 0) (((0:Int),()),((((aC (p++q,s.1.2) (ao b) a).1,(l3,(s.2,()))),((a,()),((b,()),((ao b,()),())))),())))=some (((0:Int),()),(((aC (p++q,s.1.2) (ao b) a).1,(cT s.1.2 b.1,(Hz s.2 a b,()))),())):=by
          intro l3 hl3
          subst hl3
          have eb:b=(b.1,b.2):=rfl
          have eo:ao b=(b.1,(ao b).2):=rfl
          rcases ho with⟨Cv,C9⟩|⟨S5,ho0⟩
          · rw[Cv]at eb;rw[C9]at eo
            have t0:pP a b 0=zD:=by unfold pP;rw[if_neg (by rw[eo];simp)]
            have t1:pP a b 1=a:=by unfold pP;rw[if_pos eo.symm]
            rw[t0,←eb]at ga
            have eG:Hz s.2 a b=bK (bK s.2 (b,zD)) (ao b,a):=by unfold Hz;rw[t0,t1,←eb,←eo]
            rw[eG]
            refine ar (j:=0) (by kernel_rfl) ((wj _ _ _).trans ?_)
            refine ae rfl (ae (by show(b.2==(0:Int))=true;simp[Cv]) ?_)
            refine aa (DJ hG ((aC (p++q,s.1.2) (ao b) a).1,(cT s.1.2 b.1,(s.2,()))) b zD h.g (by show s.2.length≤_;omega)) ?_
            refine ar (j:=0) (by kernel_rfl) ((wj _ _ _).trans ?_)
            refine ae rfl (af (by show(b.2==(1:Int))=false;simp[Cv]) ?_)
            refine aa (DJ hG ((aC (p++q,s.1.2) (ao b) a).1,(cT s.1.2 b.1,(bK s.2 (b,zD),()))) (ao b) a ga.1 (by have:=ga.2;show(bK s.2 (b,zD)).length≤_;omega)) ?_
            refine ar (j:=0) (by kernel_rfl) ((wj _ _ _).trans ?_)
            exact af rfl rfl
          · rw[S5]at eb;rw[ho0]at eo
            have t0:pP a b 0=a:=by unfold pP;rw[if_pos eo.symm]
            have t1:pP a b 1=zD:=by unfold pP;rw[if_neg (by rw[eo];simp)]
            rw[t0,←eo]at ga
            have eG:Hz s.2 a b=bK (bK s.2 (ao b,a)) (b,zD):=by unfold Hz;rw[t0,t1,←eb,←eo]
            rw[eG]
            refine ar (j:=0) (by kernel_rfl) ((wj _ _ _).trans ?_)
            refine ae rfl (af (by show(b.2==(0:Int))=false;simp[S5]) ?_)
            refine aa (DJ hG ((aC (p++q,s.1.2) (ao b) a).1,(cT s.1.2 b.1,(s.2,()))) (ao b) a h.g (by show s.2.length≤_;omega)) ?_
            refine ar (j:=0) (by kernel_rfl) ((wj _ _ _).trans ?_)
            refine ae rfl (ae (by show(b.2==(1:Int))=true;simp[S5]) ?_)
            refine aa (DJ hG ((aC (p++q,s.1.2) (ao b) a).1,(cT s.1.2 b.1,(bK s.2 (ao b,a),()))) b zD ga.1 (by have:=ga.2;show(bK s.2 (ao b,a)).length≤_;omega)) ?_
            refine ar (j:=0) (by kernel_rfl) ((wj _ _ _).trans ?_)
            exact af rfl rfl
        exact r3 _ ek2
      exact r2 _ e1
    exact r1 _ dk2
  have bo:∀y:ab,((y.1.1==(aZ o).1)&&(y.1.2==(aZ o).2))=decide (y.1=aZ o):=fun y=>jn y.1 (aZ o)
  by_cases h0:r0.1=aZ o
  · rw[if_pos h0]
    refine⟨0,((JG s o r1 r0).1,((JG s o r1 r0).2,(Hz s.2 r1 r0,()))),go _ _ (af Da (aa g0 (aa g1 (af b01 (aa g0 (aa g1 (ae ((bo r0).trans (decide_eq_true h0)) ?_))))))),rfl⟩
    refine bj ((bo r0).trans (decide_eq_true h0)) (af rfl ?_)
    exact tail r1 r0 (by rw[hr];exact List.Perm.swap _ _ _) (fun k=>XR k.symm)
  rw[if_neg h0]
  by_cases h1:r1.1=aZ o
  · rw[if_pos h1]
    refine⟨0,((JG s o r0 r1).1,((JG s o r0 r1).2,(Hz s.2 r0 r1,()))),go _ _ (af Da (aa g0 (aa g1 (af b01 (aa g0 (aa g1 (af ((bo r0).trans (decide_eq_false h0)) ?_))))))),rfl⟩
    refine bj ((bo r1).trans (decide_eq_true h1)) (af rfl ?_)
    exact tail r0 r1 (by rw[hr]) XR
  rw[if_neg h1]
  refine⟨14,aH s,go _ _ (af Da (aa g0 (aa g1 (af b01 (aa g0 (aa g1 (af ((bo r0).trans (decide_eq_false h0)) ?_))))))),rfl⟩
  exact bj ((bo r1).trans (decide_eq_false h1)) (ae rfl rfl)
end Go.Vs
namespace Go.Vs
open Go.Proofs
theorem DL{row:List ab}(hn:row.Nodup){i j:Nat}{hi:i<row.length}{hj:j<row.length}(h:row[i]=row[j]):i=j:=by
 rcases Nat.lt_trichotomy i j with k|k|k
 ·exact absurd h (List.pairwise_iff_getElem.1 hn i j hi hj k)
 ·exact k
 ·exact absurd h.symm (List.pairwise_iff_getElem.1 hn j i hj hi k)
theorem DM{row:List ab}(hn:row.Nodup){i j:Nat}{x:ab}(hi:row[i]? = some x)(hj:row[j]? = some x):i=j:=by
 obtain⟨h1,h2⟩:=List.getElem?_eq_some_iff.1 hi
 obtain⟨h3,h4⟩:=List.getElem?_eq_some_iff.1 hj
 exact DL hn (h2.trans h4.symm)
theorem HN(row:List ab):∃j,j≤row.length∧cI row=B8 row j:=by
 by_cases h0:row.length=0
 ·have:row=[]:=by simpa using h0
  subst this;exact⟨0,by simp,rfl⟩
 ·exact⟨fj row row 0 0,Nat.le_of_lt (oS row row 0 0 (by omega) (by omega)),rfl⟩
theorem TC{row:List ab}(hn:row.Nodup){k:Nat}{x:ab}(hk:row[k]? = some x):idx x row 0=(k:Int):=by
 have:=JM (d:=x) (row:=row) (k:=k) (i:=0) hk (fun j hj he=>by have:=DM hn hk he;omega)
 omega
end Go.Vs
namespace Go.Vs
open Go.Proofs
variable {G:(f:FuncId)→(g:aJ)→Option (g.A→Option g.B)}
theorem M1(l:List ag)(x:ID):l.any (fun w=>decide (w.1=x))=(aR l x).isSome:=by
 rw[Bool.eq_iff_iff,List.any_eq_true];unfold aR;rw[List.find?_isSome]
theorem M3(l:List ah)(x:ID):l.any (fun w=>decide (w.1=x))=(aU l x).isSome:=by
 rw[Bool.eq_iff_iff,List.any_eq_true];unfold aU;rw[List.find?_isSome]
theorem M4(s:StateT)(o:ba):jh (tz (aH s) o).1 (tz (aH s) o).2=wu s o:=by
 unfold tz wu Hw EY
 rw[M1,M3]
 by_cases ho:mY o=true
 ·have hv:s.1.1.map (iH o)=s.1.1:=by
   conv=>rhs;rw[←List.map_id s.1.1]
   exact List.map_congr_left fun u hu=>by unfold iH;rw[if_neg (by rw[ho];simp)];rfl
  rw[if_pos ho,ho,hv]
  show jh (if(aU s.1.2 (aV o)).isSome=true then _ else _:Int×aQ).1 (if(aU s.1.2 (aV o)).isSome=true then _ else _:Int×aQ).2=_
  cases (aU s.1.2 (aV o)).isSome<;>rfl
 ·have mQ:mY o=false:=by simpa using ho
  have he:s.1.2.map (jK o)=s.1.2:=by
   conv=>rhs;rw[←List.map_id s.1.2]
   exact List.map_congr_left fun u hu=>by unfold jK;rw[if_neg (by rw[mQ];simp)];rfl
  rw[if_neg ho,mQ,he]
  show jh (if(aR s.1.1 (aV o)).isSome=true then _ else _:Int×aQ).1 (if(aR s.1.1 (aV o)).isSome=true then _ else _:Int×aQ).2=_
  cases (aR s.1.1 (aV o)).isSome<;>rfl
theorem QM(hG:HG G)(w:aQ)(o:ba)(hk:7≤o.1)(hv:bX w.1)(he:dg w.2.1)(U4:w.1.length≤50000000)(hle:w.2.1.length≤50000000) :
  FX G 131 ED ((o,()),(w,()))=some (((tz w o).1,()),((tz w o).2,())):=by
 refine au (fn:=Tryz.f131) (hG _ _ rfl) (by kernel_rfl) (by kernel_rfl) ((Jp _ _ _).trans ?_)
 have kn:∀k:Int,k<7→(o.1==k)=false:=fun k n6=>xJ (by omega)
 refine af (kn 1 (by omega)) (af (kn 2 (by omega)) (af (kn 3 (by omega)) (af (kn 4 (by omega)) (af (kn 5 (by omega)) (af (kn 6 (by omega)) ?_)))))
 exact aa (afY hG w o hv he U4 hle) rfl
def opL(x:ID)(e:Bool)(t:ByteArray):ba:=(7,(x,(zI,(zI,(zC,(zC,(e,(t,0))))))))
def opA(x:ID)(e:Bool)(n:Int):ba:=(8,(x,(zI,(zI,(zC,(zC,(e,(e0,n))))))))
theorem WK:JK 0:=by unfold JK;omega
theorem Le{l:List ag}(hs:bX l){v w:ag}(hv:v∈l)(hw:w∈l)(h:w.1=v.1):w=v:=by
 have h1:=kr hs hv
 have h2:=kr hs hw
 rw[h,h1]at h2
 exact(Option.some.inj h2).symm
structure Lay(s t:StateT):Prop where
 v:bX t.1.1
 e:dg t.1.2
 sm:Sm t.1
 g:t.2.length≤50000000
end Go.Vs
namespace Go.Vs
open Go.Proofs
variable {G:(f:FuncId)→(g:aJ)→Option (g.A→Option g.B)}
theorem HO(l:List ah):(ends l).length=2*l.length:=by
 induction l with
 |nil=>rfl
 |cons e r ih=>rw[jN];simp[ih];omega
theorem TD{l:List ag}{v:ag}(h:v∈l):v.2.1.length≤(aq l).length:=by
 obtain⟨a,b,rfl⟩:=List.append_of_mem h
 rw[nS,jM];simp;omega
theorem Wf.tD{d:aj}(h:Wf d):∀v∈d.1,v.2.1.length≤80:=fun v hv=>by
 have h1:=TD hv
 have h2:=h.pd.length_eq
 have h3:=h.ne
 rw[HO]at h2;omega
theorem Wf.sm{d:aj}(h:Wf d):Sm d:=⟨by have:=h.nv;omega,by have:=h.ne;omega,fun v hv=>by have:=h.tD v hv;omega⟩
theorem Wf.small{d:aj}(h:Wf d):Sv d.1:=⟨by have:=h.nv;omega,fun v hv=>by have:=h.tD v hv;omega⟩
theorem M5(s:StateT)(o:ba):jh (pG (aH s) (aV o,([],(e0,0)))).1 (pG (aH s) (aV o,([],(e0,0)))).2=pz s o:=by
 by_cases hh:(aR s.1.1 (aV o)).isSome=true
 ·have a:pG (aH s) (aV o,([],(e0,0)))=(12,aH s):=if_pos hh
  have b:pz s o=(zS,(12,())):=if_pos hh
  rw[a,b];rfl
 by_cases h:24≤s.1.1.length
 ·have a:pG (aH s) (aV o,([],(e0,0)))=(3,aH s):=(if_neg hh).trans (if_pos h)
  have b:pz s o=(zS,(3,())):=(if_neg hh).trans (if_pos h)
  rw[a,b];rfl
 ·have a:pG (aH s) (aV o,([],(e0,0)))=(0,(dW (aV o,([],(e0,0))) (aH s).1,(aH s).2)):=(if_neg hh).trans (if_neg h)
  have b:pz s o=(((dW (aV o,([],(e0,0))) s.1.1,s.1.2),s.2),(0,())):=(if_neg hh).trans (if_neg h)
  rw[a,b];rfl
theorem M6{s:StateT}(h:eU s)(o:ba):jh (Dx (aH s) (aV o)).1 (Dx (aH s) (aV o)).2=xI s o:=by
 unfold Dx xI bp
 show jh (match aR s.1.1 (aV o) with|none=>(13,aH s)|some v=>if 0<v.2.1.length then(14,aH s) else(0,(dv s.1.1 (aV o),(s.1.2,(s.2,())))):Int×aQ).1 (match aR s.1.1 (aV o) with|none=>(13,aH s)|some v=>if 0<v.2.1.length then(14,aH s) else(0,(dv s.1.1 (aV o),(s.1.2,(s.2,())))):Int×aQ).2=_
 cases aR s.1.1 (aV o) with
 |none=>rfl
 |some v =>
  simp only
  by_cases hl:0<v.2.1.length
  ·rw[if_pos hl,if_pos hl];rfl
  ·rw[if_neg hl,if_neg hl]
   unfold aS
   rw[vd h.d.ge];rfl
def Lf(s:StateT)(o:ba):StateT×(Int×Unit) :=
 if o.1=1 then pz s o else if o.1=2 then xI s o else if o.1=3 then py s o else if o.1=4 then E0 s o else if o.1=5 then lW s o else if o.1=6 then kW s o else wu s o
theorem M7(s:StateT)(o:ba):kX s o=if cf o≠0 then(zS,(cf o,())) else Lf s o:=rfl
theorem QN(hG:HG G)(s:StateT)(o:ba)(h:eU s)(hm:cf o=0)(h3:o.1=3→∃(e:Int) (w:aQ),FX G 154 oP ((o,()),(aH s,()))=some ((e,()),(w,()))∧jh e w=py s o) :
  ∃(e:Int) (w:aQ),FX G 131 ED ((o,()),(aH s,()))=some ((e,()),(w,()))∧jh e w=Lf s o:=by
 have hk:=Bw hm
 have TE:=h.d.small
 have So:=h.d.nv;have bq:=h.d.ne
 have start:∀(e:Int) (w:aQ),bS 131 ED Tryz.f131 (FX G) (LX G 131 ED Tryz.f131) ((o,()),(aH s,()))=some ((e,()),(w,()))→FX G 131 ED ((o,()),(aH s,()))=some ((e,()),(w,())):=fun e w a =>
  au (fn:=Tryz.f131) (hG _ _ rfl) (by kernel_rfl) (by kernel_rfl) a
 unfold Lf
 by_cases h1:o.1=1
 ·rw[if_pos h1]
  refine⟨_,_,start _ _ ((Jp _ _ _).trans (ae (Fu h1) (aa (WD hG (aH s) (aV o,([],(e0,0))) h.d.sv TE.n) rfl))),?_⟩
  exact M5 s o
 rw[if_neg h1]
 by_cases h2:o.1=2
 ·rw[if_pos h2]
  refine⟨_,_,start _ _ ((Jp _ _ _).trans (af (xJ h1) (ae (Fu h2) (aa (afR hG (aH s) o h.d.sv TE.n) rfl)))),?_⟩
  exact M6 h o
 rw[if_neg h2]
 by_cases NA:o.1=3
 ·rw[if_pos NA]
  obtain⟨e,w,a,b⟩:=h3 NA
  exact⟨e,w,start _ _ ((Jp _ _ _).trans (af (xJ h1) (af (xJ h2) (ae (Fu NA) (aa a rfl))))),b⟩
 rw[if_neg NA]
 by_cases hk4:o.1=4
 ·rw[if_pos hk4]
  obtain⟨e,w,a,b⟩:=af1 hG s o h TE
  exact⟨e,w,start _ _ ((Jp _ _ _).trans (af (xJ h1) (af (xJ h2) (af (xJ NA) (ae (Fu hk4) (aa a rfl)))))),b⟩
 rw[if_neg hk4]
 by_cases WI:o.1=5
 ·rw[if_pos WI]
  obtain⟨e,w,a,b⟩:=af5 hG s o h TE hm WI
  exact⟨e,w,start _ _ ((Jp _ _ _).trans (af (xJ h1) (af (xJ h2) (af (xJ NA) (af (xJ hk4) (ae (Fu WI) (aa a rfl))))))),b⟩
 rw[if_neg WI]
 by_cases hk6:o.1=6
 ·rw[if_pos hk6]
  obtain⟨e,w,a,b⟩:=agb hG s o h TE
  exact⟨e,w,start _ _ ((Jp _ _ _).trans (af (xJ h1) (af (xJ h2) (af (xJ NA) (af (xJ hk4) (af (xJ WI) (ae (Fu hk6) (aa a rfl)))))))),b⟩
 rw[if_neg hk6]
 refine⟨_,_,QM hG (aH s) o (by omega) h.d.sv h.d.se TE.n (by show s.1.2.length≤_;omega),?_⟩
 exact M4 s o
end Go.Vs
namespace Go.Vs
open Go.Proofs
variable {G:(f:FuncId)→(g:aJ)→Option (g.A→Option g.B)}
def ig(G:(f:FuncId)→(g:aJ)→Option (g.A→Option g.B))(o:ba):Prop:=∀s,eU s→cf o=0→o.1=3→∃(e:Int) (w:aQ),FX G 154 oP ((o,()),(aH s,()))=some ((e,()),(w,()))∧jh e w=py s o
theorem QO{s:StateT}{o:ba}(hm:cf o=0):Lf s o=kX s o:=by rw[M7,if_neg (by simp[hm])]
theorem agf(hG:HG G)(l:List ba)(hl:l.length≤1073741824)(hm:∀o∈l,cf o=0)(h3:∀o∈l,ig G o):∀(n i:Nat) (s:StateT),i+n=l.length→eU s →
  LX G 103 Gy Tryz.f103 AP (aN Tryz.prog 103 0) ((l,(((l.length:Nat):Int),((i:Int),()))),((zW,(aH s,())),()))=some (E1 (l.drop i) s,()):=by
 intro n
 induction n with
 |zero =>
  intro i s hi hw
  refine ar (j:=0) (by kernel_rfl) ((Py _ _ _).trans ?_)
  refine af (decide_eq_false (show ¬((i:Int)<((l.length:Nat):Int)) by omega)) ?_
  rw[List.drop_eq_nil_of_le (by omega)];rfl
 |succ n ih =>
  intro i s hi hw
  have aF:i<l.length:=by omega
  have ho:=hm l[i] (List.getElem_mem aF)
  obtain⟨e,w,h1,h2⟩:=QN hG s l[i] hw ho (h3 _ (List.getElem_mem aF) s hw ho)
  rw[QO ho]at h2
  refine ar (j:=0) (by kernel_rfl) ((Py _ _ _).trans ?_)
  refine ae (aW aF) (aa (aI (List.getElem?_eq_getElem aF)) ?_)
  refine aa h1 ?_
  rw[List.drop_eq_getElem_cons aF,E1]
  have D8:=hw.one l[i]
  by_cases he:e=0
  ·have e1:jh e w=(yK w,(0,())):=if_neg (by simp[he])
   rw[e1]at h2
   rw[←h2]at D8 ⊢
   rw[if_neg (by simp)]
   refine af (show(e != 0)=false by simp[he]) ?_
   have:=ih (i+1) (yK w) (by omega) D8
   rw[←aG aF hl]at this
   exact this
  ·have e1:jh e w=(zS,(e,())):=if_pos he
   rw[e1]at h2
   rw[←h2,if_pos he]
   exact ae (show(e != 0)=true by simp[he]) rfl
theorem WL(hG:HG G)(s:StateT)(l:List ba)(hw:eU s)(hl:l.length≤1073741824)(hm:∀o∈l,cf o=0)(h3:∀o∈l,ig G o):FX G 103 Gy ((s,l,()),())=some (E1 l s,()):=by
 have hn:=hw.n
 refine au (fn:=Tryz.f103) (hG _ _ rfl) (by kernel_rfl) (by kernel_rfl) ((aeg _ _ _).trans ?_)
 refine aa (aaN hG s.1 hw.d.sm) ?_
 refine aa (WC (hG _ _ rfl) s.2 (by omega)) ?_
 have:=agf hG l hl hm h3 l.length 0 s (by omega) hw
 rw[List.drop_zero]at this
 exact this
theorem HP(l:List ba)(h:gS l=0):∀o∈l,cf o=0:=by
 induction l with
 |nil=>intro o ho;simp at ho
 |cons o r ih =>
  rw[gS]at h
  by_cases ho:cf o=0
  ·rw[if_neg (fun k=>k ho)]at h
   intro p hp
   rcases List.mem_cons.1 hp with e|hp
   ·rw[e];exact ho
   ·exact ih h p hp
  ·rw[if_pos ho]at h;exact absurd h ho
theorem JR{l:List ba}(h:ck l=0):∀o∈l,cf o=0:=by
 unfold ck at h
 split at h
 ·exact HP l h
 ·cases h
theorem agh(hG:HG G)(s:StateT)(l:List ba)(hw:eU s)(hl:l.length≤1073741824)(hf:∀o∈l,Fit o)(h3:∀o∈l,ig G o):FX G 63 O3 ((s,l,()),())=some (cP s l,()):=by
 refine au (fn:=Tryz.f63) (hG _ _ rfl) (by kernel_rfl) (by kernel_rfl) ((ad7 _ _ _).trans ?_)
 refine aa (aaQ hG l hl hf) ?_
 unfold cP
 by_cases hm:ck l=0
 ·rw[if_neg (by simp[hm])]
  refine af (show(ck l != 0)=false by simp[hm]) ?_
  exact aa (WL hG s l hw hl (JR hm) h3) rfl
 ·rw[if_pos hm]
  exact ae (show(ck l != 0)=true by simp[hm]) rfl
theorem aa1(hG:HG G)(s:StateT)(l:List ba)(hw:eU s)(hl:l.length≤1073741824)(hf:∀o∈l,Fit o)(h3:∀o∈l,ig G o):FX G 102 Gv ((s,l,()),())=some ((iI s l,()),()):=by
 have hn:=hw.n
 refine au (fn:=Tryz.f102) (hG _ _ rfl) (by kernel_rfl) (by kernel_rfl) ((aeb _ _ _).trans ?_)
 refine aa (agh hG s l hw hl hf h3) ?_
 unfold iI
 by_cases he:(cP s l).2.1=0
 ·rw[if_neg (by simp[he])]
  exact af (show((cP s l).2.1 != 0)=false by simp[he]) rfl
 ·rw[if_pos he]
  refine ae (show((cP s l).2.1 != 0)=true by simp[he]) ?_
  refine aa (aaN hG s.1 hw.d.sm) ?_
  exact aa (WC (hG _ _ rfl) s.2 (by omega)) rfl
end Go.Vs
