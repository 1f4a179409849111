/- Edges cut and split, vertices smoothed: what the program computes. -/
import Derived.Test.YtpkfpbpbkabkdaaGreatFormed
import Derived.Test.YtpkfpbpbkabkdaaGreatTop
set_option linter.unusedVariables false
set_option linter.unusedSimpArgs false
namespace Go.Vs
open Go.Proofs
variable {G:(f:FuncId)→(g:aK)→Option (g.A→Option g.B)}
theorem Q5(hG:HG G)(v:aF)(x:ab):FX G 232 Br ((v,x,()),())=some ((qT v.1 x,()),()):=by
 refine aI (fn:=Tryz.f232) (hG _ _ rfl) (by kernel_rfl) (by kernel_rfl) ((Vh _ _ _).trans ?_)
 exact aa (Q1 hG v.1 x) rfl
def c6(l:List aF)(x:ab):Nat:=l.countP fun v=>kj v.1 x
theorem C1(l:List aF)(x:ab):c6 l x≤l.length:=List.countP_le_length
theorem vg{l:List aF}{x:ab}(h:∀v∈l,kj v.1 x=false):c6 l x=0:=by
 unfold c6;rw[List.countP_eq_zero];intro v hv;simp[h v hv]
theorem BN{x:ab}:∀{l:List aF},g6 l→∀(k:Nat) (v:aF),l[k]? = some v→(kj v.1 x=true↔k<c6 l x)
 |[],_,k,v,h=>by simp at h
 |w::r,hs,k,v,h=>by
  have hw:∀{u:aF},u∈r→kj w.1 u.1=true:=fun {u} hu=>List.rel_of_pairwise_cons hs hu
  have hr:g6 r:=hs.of_cons
  by_cases aG:kj w.1 x=true
  ·have e:c6 (w::r) x=c6 r x+1:=by unfold c6;rw[List.countP_cons_of_pos (by simpa using aG)]
   cases k with
   |zero=>simp at h;subst h;simp[aG,e]
   |succ k=>have:=BN (x:=x) hr k v (by simpa using h);rw[this,e];omega
  ·have hn:∀u∈w::r,kj u.1 x=false:=fun u hu=>by
    rcases List.mem_cons.1 hu with rfl|hu
    ·simpa using aG
    ·rw[Bool.eq_false_iff];intro h2;exact aG (fN (hw hu) h2)
   rw[vg hn,hn v (List.mem_of_getElem? h)]
   simp
theorem M4(hG:HG G)(l:List aF)(x:ab)(hs:g6 l)(hl:l.length≤50000000):∀(n i j:Nat),j-i≤n→i≤c6 l x→c6 l x≤j→j≤l.length →
  LX G 233231 iA Tryz.f231 gM (bY Tryz.prog 231 0) ((l,(((l.length:Nat):Int),((i:Int),((j:Int),())))),(((x,()),()),()))=some (((((c6 l x:Nat):Int),(decide ((l[c6 l x]?).map (·.1)=some x),())):Int×(Bool×Unit)),()):=by
 have rM:=C1 l x
 have fin:∀(i j:Nat),¬(i<j)→i≤c6 l x→c6 l x≤j→LX G 233231 iA Tryz.f231 gM (bY Tryz.prog 231 0) ((l,(((l.length:Nat):Int),((i:Int),((j:Int),())))),(((x,()),()),()))=some (((((c6 l x:Nat):Int),(decide ((l[c6 l x]?).map (·.1)=some x),())):Int×(Bool×Unit)),()):=fun i j xQ h1 h2=>by
  have hi:i=c6 l x:=by omega
  subst hi
  refine aQ (j:=0) (by kernel_rfl) ((yU _ _ _).trans ?_)
  refine af (decide_eq_false (show ¬(((c6 l x:Nat):Int)<(j:Int)) by omega)) ?_
  by_cases hc:c6 l x<l.length
  ·have hx:l[c6 l x]? = some l[c6 l x]:=List.getElem?_eq_getElem hc
   refine ae (cg hc) ?_
   refine aa (bZ hx) ?_
   refine aa (Q5 hG l[c6 l x] x) ?_
   refine congrArg (fun b:Bool=>some ((((c6 l x:Nat):Int),(b,())),())) ?_
   rw[hx]
   unfold qT
   by_cases he:l[c6 l x].1=x
   ·simp[he]
   ·simp[he];split<;>simp
  ·refine af (decide_eq_false (show ¬(((c6 l x:Nat):Int)<((l.length:Nat):Int)) by omega)) ?_
   refine congrArg (fun b:Bool=>some ((((c6 l x:Nat):Int),(b,())),())) ?_
   rw[List.getElem?_eq_none (by omega)];simp
 intro n
 induction n with
 |zero=>intro i j xQ h1 h2 h3;exact fin i j (by omega) h1 h2
 |succ n ih =>
  intro i j xQ h1 h2 h3
  by_cases aG:i<j
  case neg=>exact fin i j aG h1 h2
  refine aQ (j:=0) (by kernel_rfl) ((yU _ _ _).trans ?_)
  refine ae (decide_eq_true (show((i:Int)<(j:Int)) by omega)) ?_
  refine af rfl ?_
  have hm:=Hd (i:=i) (j:=j) (by omega) (by omega)
  have hh:(i+j) / 2<l.length:=by omega
  have hx:l[(i+j) / 2]? = some l[(i+j) / 2]:=List.getElem?_eq_getElem hh
  have mH:=BN (x:=x) hs ((i+j) / 2) _ hx
  refine aa (show dw l (IntKind.wrap .i64 (kc .u64 (IntKind.wrap .u64 (IntKind.wrap .i64 ((i:Int)+(j:Int)))) (1:Int)))=some l[(i+j) / 2] by rw[hm];exact bZ hx) ?_
  refine aa (Q5 hG l[(i+j) / 2] x) ?_
  by_cases ho:kj l[(i+j) / 2].1 x=true
  ·refine ae (decide_eq_true ((w8 _ _).2 ho)) ?_
   have hc:=mH.1 ho
   have hw:IntKind.wrap .i64 (IntKind.wrap .i64 (kc .u64 (IntKind.wrap .u64 (IntKind.wrap .i64 ((i:Int)+(j:Int)))) (1:Int))+1)=(((i+j) / 2+1:Nat):Int):=by
    rw[hm];exact bz hh (by omega)
   have:=ih ((i+j) / 2+1) j (by omega) (by omega) h2 h3
   rw[←hw]at this
   exact this
  ·refine af (decide_eq_false (fun h=>ho ((w8 _ _).1 h))) ?_
   have hc:¬(i+j) / 2<c6 l x:=fun h=>ho (mH.2 h)
   have:=ih i ((i+j) / 2) (by omega) h1 (by omega) (by omega)
   rw[←hm]at this
   exact this
theorem M5(hG:HG G)(l:List aF)(x:ab)(hs:g6 l)(hl:l.length≤50000000) :
  FX G 233231 iA ((l,x,()),())=some (((((c6 l x:Nat):Int),(decide ((l[c6 l x]?).map (·.1)=some x),())):Int×(Bool×Unit)),()):=by
 refine aI (fn:=Tryz.f231) (hG _ _ rfl) (by kernel_rfl) (by kernel_rfl) ((Mp _ _ _).trans ?_)
 exact M4 hG l x hs hl l.length 0 l.length (by omega) (by omega) (C1 l x) (Nat.le_refl _)
theorem E7(g:aF):∀{l:List aF},g6 l→oJ g l=if(l[c6 l g.1]?).map (·.1)=some g.1 then l.set (c6 l g.1) g else l.take (c6 l g.1)++(g::l.drop (c6 l g.1))
 |[],_=>rfl
 |w::r,hs=>by
  have hw:∀{u:aF},u∈r→kj w.1 u.1=true:=fun {u} hu=>List.rel_of_pairwise_cons hs hu
  have hr:g6 r:=List.Pairwise.of_cons hs
  by_cases aG:kj w.1 g.1=true
  ·have e:c6 (w::r) g.1=c6 r g.1+1:=by unfold c6;rw[List.countP_cons_of_pos (by simpa using aG)]
   have aU:w.1≠g.1:=fun k=>by rw[k,dn]at aG;cases aG
   have pf:¬qT g.1 w.1≤0:=fun k=>by
    rcases oa.1 k with k|k
    ·exact aU k.symm
    ·have:=fN aG k;rw[dn]at this;cases this
   have ih:=E7 g hr
   rw[e,oJ,if_neg pf,if_pos aU,ih]
   simp only[List.getElem?_cons_succ,List.set_cons_succ,List.take_succ_cons,List.drop_succ_cons,List.cons_append]
   split<;>rfl
  ·have hn:∀u∈w::r,kj u.1 g.1=false:=fun u hu=>by
    rcases List.mem_cons.1 hu with rfl|hu
    ·simpa using aG
    ·rw[Bool.eq_false_iff];intro h2;exact aG (fN (hw hu) h2)
   rw[vg hn]
   by_cases he:w.1=g.1
   ·have Ss:qT g.1 w.1≤0:=oa.2 (.inl he.symm)
    have h1:qU g (w::r)=r:=by
     have:qU g (w::r)=qU g r:=by unfold qU;rw[List.filter_cons_of_neg (by simp[he])]
     rw[this]
     exact qI (fun q hq k=>by have:=hw hq;rw[k,he,dn]at this;cases this)
    rw[oJ,if_pos Ss,h1,if_pos (by simp[he])];rfl
   ·have CA:kj g.1 w.1=true:=vd (by simpa using aG) he
    have Ss:qT g.1 w.1≤0:=oa.2 (.inr CA)
    have h1:qU g (w::r)=w::r:=qI (fun q hq k=>by
     rcases List.mem_cons.1 hq with rfl|hq
     ·exact he k
     ·have:=fN CA (hw hq);rw[k,dn]at this;cases this)
    rw[oJ,if_pos Ss,h1,if_neg (by simp[he])];rfl
theorem BO{x:ab}:∀{l:List aF},g6 l→(lg l x).isSome=decide ((l[c6 l x]?).map (·.1)=some x)
 |[],_=>rfl
 |w::r,hs=>by
  have hw:∀{u:aF},u∈r→kj w.1 u.1=true:=fun {u} hu=>List.rel_of_pairwise_cons hs hu
  have hr:g6 r:=List.Pairwise.of_cons hs
  rw[oc]
  by_cases aG:kj w.1 x=true
  ·have e:c6 (w::r) x=c6 r x+1:=by unfold c6;rw[List.countP_cons_of_pos (by simpa using aG)]
   have aU:w.1≠x:=fun k=>by rw[k,dn]at aG;cases aG
   rw[e,if_neg aU,BO hr,List.getElem?_cons_succ]
  ·have hn:∀u∈w::r,kj u.1 x=false:=fun u hu=>by
    rcases List.mem_cons.1 hu with rfl|hu
    ·simpa using aG
    ·rw[Bool.eq_false_iff];intro h2;exact aG (fN (hw hu) h2)
   rw[vg hn]
   by_cases he:w.1=x
   ·simp[he]
   ·have CA:kj x w.1=true:=vd (by simpa using aG) he
    have:lg r x=none:=by
     unfold lg
     have:(List.find? (fun q=>decide (q.1=x)) r)=none:=by
      rw[List.find?_eq_none];intro q hq k
      have k:q.1=x:=by simpa using k
      have:=fN CA (hw hq);rw[k,dn]at this;cases this
     rw[this];rfl
    rw[if_neg he,this];simp[he]
theorem Wl(hG:HG G)(l:List aF)(g:aF)(hs:g6 l)(hl:l.length≤50000000):FX G 215 En ((l,g,()),())=some ((bH l g,()),()):=by
 refine aI (fn:=Tryz.f215) (hG _ _ rfl) (by kernel_rfl) (by kernel_rfl) ((U7 _ _ _).trans ?_)
 refine aa (M5 hG l g.1 hs hl) ?_
 refine aa (Sn (hG _ _ rfl) l hl) ?_
 unfold bH
 rw[BO hs,E7 g hs]
 have hc:c6 l g.1≤l.length:=C1 l g.1
 by_cases h:(l[c6 l g.1]?).map (·.1)=some g.1
 ·rw[decide_eq_true h,if_neg (fun k=>by cases k.1),if_pos h]
  refine ae rfl ?_
  obtain⟨u,hu,_⟩:∃u,l[c6 l g.1]? = some u∧u.1=g.1:=by
   cases hq:l[c6 l g.1]? with
   |none=>rw[hq]at h;cases h
   |some u=>rw[hq]at h;exact⟨u,rfl,by simpa using h⟩
  have aG:=(List.getElem?_eq_some_iff.1 hu).1
  refine ae (eV (jN _) (cg aG)) ?_
  exact aa hu rfl
 ·rw[decide_eq_false h,if_neg h]
  refine af rfl ?_
  by_cases h4:400≤l.length
  ·rw[if_pos ⟨rfl,h4⟩]
   exact af (decide_eq_false (show ¬((l.length:Nat):Int)<400 by omega)) rfl
  ·rw[if_neg (fun k=>h4 k.2)]
   refine ae (decide_eq_true (show((l.length:Nat):Int)<400 by omega)) ?_
   have lq:oU l ((c6 l g.1:Nat):Int) [g]=true:=by
    unfold oU
    rw[decide_eq_true (show(0:Int)≤((c6 l g.1:Nat):Int) by omega),decide_eq_true (show((c6 l g.1:Nat):Int)≤((l.length:Nat):Int) by omega)]
    rw[fits (by simp;omega)];rfl
   refine ae lq ?_
   have e:fh l ((c6 l g.1:Nat):Int) [g]=l.take (c6 l g.1)++(g::l.drop (c6 l g.1)):=by unfold fh;simp
   exact congrArg (fun r:List aF=>some ((r,()),())) e
theorem BP(hG:HG G)(w:aB)(x to:ab)(hs:g6 w.2.2.1)(hl:w.2.2.1.length≤50000000):FX G 183 yH ((x,to,()),(w,()))=some ((),((w.1,(w.2.1,(bH w.2.2.1 (x,to),()))),())):=by
 refine aI (fn:=Tryz.f183) (hG _ _ rfl) (by kernel_rfl) (by kernel_rfl) ((UM _ _ _).trans ?_)
 exact aa (Wl hG w.2.2.1 (x,to) hs hl) rfl
theorem BQ(hG:HG G)(w:aB)(x:ab)(hw:Rw w.1)(hl:w.1.length≤50000000)(hr:∀v∈w.1,v.2.1.length≤50000000){k:Nat}{v:ah}(hk:w.1[k]? = some v)(hx:x∈v.2.1) :
  FX G 185 kV ((x,()),(w,()))=some (((some ((⟨0,by decide⟩:Fin 1),k)),()),(w,())):=by
 refine aI (fn:=Tryz.f185) (hG _ _ rfl) (by kernel_rfl) (by kernel_rfl) ((UO _ _ _).trans ?_)
 have Ru:=(List.getElem?_eq_some_iff.1 hk).1
 have loop:∀(n i:Nat),i+n=k→LX G 185 kV Tryz.f185 tx (bY Tryz.prog 185 0) ((((w.1.length:Nat):Int),((i:Int),())),((w,((x,()),())),()))=some (((some ((⟨0,by decide⟩:Fin 1),k)),()),(w,())):=by
  intro n
  induction n with
  |zero =>
   intro i hi
   have hi:i=k:=by omega
   subst hi
   refine aQ (j:=0) (by kernel_rfl) ((Ig _ _ _).trans ?_)
   refine ae (cg Ru) (ae (eV (jN _) (cg Ru)) (aa hk ?_))
   refine aa (BD hG v.2.1 x (by have:=hr v (List.mem_of_getElem? hk);omega)) ?_
   exact ae (decide_eq_true hx) rfl
  |succ n ih =>
   intro i hi
   have ng:i<w.1.length:=by omega
   have hu:w.1[i]? = some w.1[i]:=List.getElem?_eq_getElem ng
   have Be:x∉w.1[i].2.1:=fun hxi=>by
    have h1:w.1[i]=v:=hw.one (List.mem_of_getElem? hk) (List.getElem_mem ng) hx hxi
    have h2:=jk hw.s hk rfl
    have h3:=jk hw.s (x:=v.1) hu (by rw[h1])
    omega
   refine aQ (j:=0) (by kernel_rfl) ((Ig _ _ _).trans ?_)
   refine ae (cg ng) (ae (eV (jN _) (cg ng)) (aa hu ?_))
   refine aa (BD hG w.1[i].2.1 x (by have:=hr _ (List.getElem_mem ng);omega)) ?_
   refine af (decide_eq_false Be) ?_
   have:=ih (i+1) (by omega)
   rw[←bz ng (by omega)]at this
   exact this
 exact loop k 0 (by omega)
theorem Hi{l:List ah}{k:Nat}{v:ah}(hs:bM l)(hk:l[k]? = some v)(r:List ab):l.set k (v.1,(r,v.2.2))=l.map (uX v.1 r):=by
 have h:=jS hs (List.mem_of_getElem? hk)
 rw[jk hs hk rfl]
 refine(E1 hs h (uX v.1 r) (fun u=>(u.1,(r,u.2.2))) (fun u hu=>?_) (fun u hu=>?_)).symm
 ·unfold uX;rw[if_pos hu]
 ·unfold uX;rw[if_neg hu]
theorem pU{l:List ah}{x:ab}(h:x∈an l):∃(k:Nat) (v:ah),l[k]? = some v∧x∈v.2.1∧v∈l:=by
 obtain⟨v,hv,hx⟩:=aV.1 h
 obtain⟨k,hk,he⟩:=List.getElem_of_mem hv
 exact⟨k,v,by rw[List.getElem?_eq_getElem hk,he],hx,hv⟩
structure Sv(l:List ah):Prop where
 n:l.length≤50000000
 r:∀v∈l,v.2.1.length≤50000000
theorem M6{n:Int}(h:n=0∨n=1):cP .xor .i64 n 1=IntKind.wrap .i64 (1-n):=by
 rcases h with rfl|rfl<;>decide
theorem E8(hG:G 188 mK=none)(x:ab)(h:x.2=0∨x.2=1):FX G 188 mK ((x,()),())=some ((ao x,()),()):=by
 refine aI (fn:=Tryz.f188) hG (by kernel_rfl) (by kernel_rfl) ((UR _ _ _).trans ?_)
 exact congrArg (fun n:Int=>some ((((x.1,n):ab),()),())) (M6 h)
theorem Kq{d:ak}(h:Rw d.1){v:ah}{x:ab}(hv:v∈d.1)(hx:x∈v.2.1):dZ d x=if(lf v.2.1 x).1=x.1 then(if(lf v.2.1 (lf v.2.1 x)).1=x.1 then zD else lf v.2.1 (lf v.2.1 x)) else lf v.2.1 x:=by
 unfold dZ
 have e:cZ d ((fa d x).getD zI)=v.2.1:=by
  unfold fa;rw[iH h hv hx];exact jn h.s hv
 simp only[e]
 by_cases h1:(lf v.2.1 x).1=x.1
 ·simp only[if_pos h1]
 ·simp only[if_neg h1]
theorem Q6(hG:HG G)(w:aB)(x:ab)(hw:Rw w.1)(hs:Sv w.1)(hx:x∈an w.1)(e:List aq):FX G 184 yI ((x,()),(w,()))=some ((dZ (w.1,e) x,()),(w,())):=by
 obtain⟨k,v,hk,j0,hv⟩:=pU hx
 have L5:=hs.r v hv
 refine aI (fn:=Tryz.f184) (hG _ _ rfl) (by kernel_rfl) (by kernel_rfl) ((UN _ _ _).trans ?_)
 rw[Kq (d:=(w.1,e)) hw hv j0]
 have prev:∀y:ab,FX G 140 Bp ((v.2.1,y,()),())=some (((lf v.2.1 y),((Ol (iD v.2.1 y (v.2.1.length-1))).2)),()):=fun y=>by
  refine(Wh hG v.2.1 y (by omega)).trans ?_
  have:(Ol (iD v.2.1 y (v.2.1.length-1))).1=lf v.2.1 y:=Px _
  rw[←this]
 have mO:∀y:ab,((y.1.1==x.1.1)&&(y.1.2==x.1.2))=decide (y.1=x.1):=fun y=>ER y.1 x.1
 refine aQ (j:=0) (by kernel_rfl) ((CL _ _ _).trans ?_)
 refine ae rfl (aa (BQ hG w x hw hs.n hs.r hk j0) ?_)
 refine rC rfl (ae rfl (aa hk ?_))
 refine aa (prev x) ?_
 by_cases h1:(lf v.2.1 x).1=x.1
 ·rw[if_pos h1]
  refine aT ((mO _).trans (decide_eq_true h1)) ?_
  refine aQ (j:=0) (by kernel_rfl) ((CL _ _ _).trans ?_)
  refine ae rfl (aa (BQ hG w x hw hs.n hs.r hk j0) ?_)
  refine rC rfl (ae rfl (aa hk ?_))
  refine aa (prev (lf v.2.1 x)) ?_
  by_cases h2:(lf v.2.1 (lf v.2.1 x)).1=x.1
  ·rw[if_pos h2]
   refine aT ((mO _).trans (decide_eq_true h2)) ?_
   refine aQ (j:=0) (by kernel_rfl) ((CL _ _ _).trans ?_)
   exact af rfl rfl
  ·rw[if_neg h2]
   exact aT ((mO _).trans (decide_eq_false h2)) rfl
 ·rw[if_neg h1]
  exact aT ((mO _).trans (decide_eq_false h1)) rfl
theorem E9{l:List aq}{x:ID}(hs:cV l)(h:(aO l x).isSome=true)(hl:l.length≤50000000) :
  iM l ((bN l x:Nat):Int) (IntKind.wrap .i64 (((bN l x:Nat):Int)+1))=true∧cX l ((bN l x:Nat):Int) (IntKind.wrap .i64 (((bN l x:Nat):Int)+1))=dK l x:=by
 obtain⟨e,he⟩:=Option.isSome_iff_exists.1 h
 have aG:=(List.getElem?_eq_some_iff.1 (lk hs he)).1
 have hw:IntKind.wrap .i64 (((bN l x:Nat):Int)+1)=((bN l x+1:Nat):Int):=bz aG (by omega)
 constructor
 ·rw[hw]
  unfold iM
  rw[decide_eq_true (show(0:Int)≤((bN l x:Nat):Int) by omega),decide_eq_true (show((bN l x:Nat):Int)<((bN l x+1:Nat):Int) by omega),decide_eq_true (show((bN l x+1:Nat):Int)≤((l.length:Nat):Int) by omega),fits (by omega)];rfl
 ·rw[hw,u9 hs h]
  unfold cX;simp only[Int.toNat_natCast]
theorem M7{l:List ah}{x:ID}(hs:bM l)(h:(aM l x).isSome=true)(hl:l.length≤50000000) :
  iM l ((bj l x:Nat):Int) (IntKind.wrap .i64 (((bj l x:Nat):Int)+1))=true∧cX l ((bj l x:Nat):Int) (IntKind.wrap .i64 (((bj l x:Nat):Int)+1))=eE l x:=by
 obtain⟨e,he⟩:=Option.isSome_iff_exists.1 h
 have aG:=(List.getElem?_eq_some_iff.1 (cO hs he)).1
 have hw:IntKind.wrap .i64 (((bj l x:Nat):Int)+1)=((bj l x+1:Nat):Int):=bz aG (by omega)
 constructor
 ·rw[hw]
  unfold iM
  rw[decide_eq_true (show(0:Int)≤((bj l x:Nat):Int) by omega),decide_eq_true (show((bj l x:Nat):Int)<((bj l x+1:Nat):Int) by omega),decide_eq_true (show((bj l x+1:Nat):Int)≤((l.length:Nat):Int) by omega),fits (by omega)];rfl
 ·rw[hw,u5 hs h]
  unfold cX;simp only[Int.toNat_natCast]
theorem Sv.re{l:List ah}(h:Sv l)(x:ID){r:List ab}(hr:r.length≤50000000):Sv (l.map (uX x r)):=by
 refine⟨by simp;exact h.n,fun w hw=>?_⟩
 obtain⟨u,hu,rfl⟩:=List.mem_map.1 hw
 unfold uX
 split
 ·exact hr
 ·exact h.r u hu
theorem zB{row:List ab}(d:ab):(hY row d).length≤row.length:=by
 unfold hY;rw[fB];exact List.length_filter_le _ _
theorem IK{w:aB}{x:ab}(hw:Rw w.1){k:Nat}{v:ah}(hk:w.1[k]? = some v)(hx:x∈v.2.1)(e:List aq):w.1.set k (v.1,(hY v.2.1 x,v.2.2))=(az (w.1,e) x).1:=by
 rw[jo (d:=(w.1,e)) hw (List.mem_of_getElem? hk) hx]
 exact Hi hw.s hk _
theorem aaa(hG:HG G)(s:StateT)(o:bh)(h:fb s)(hs:Sv s.1.1) :
  ∃(e:Int) (w:aB),FX G 155 yD ((o,()),(aD s,()))=some ((e,()),(w,()))∧iG e w=G8 s o:=by
 have aU:=h.d.ne
 unfold G8
 cases hf:(aO s.1.2 (bc o)).isSome with
 |false =>
  refine⟨13,aD s,?_,?_⟩
  ·refine aI (fn:=Tryz.f155) (hG _ _ rfl) (by kernel_rfl) (by kernel_rfl) ((UD _ _ _).trans ?_)
   refine aa (mT hG (aD s) (bc o) h.d.se (by show s.1.2.length≤_;omega)) ?_
   exact aT ((cS (l:=s.1.2) h.d.se).trans hf) rfl
  ·rw[if_pos (show(mO s.1 (bc o)).isSome=false from hf)];rfl
 |true =>
  rw[if_neg (show ¬(mO s.1 (bc o)).isSome=false by show ¬(aO s.1.2 (bc o)).isSome=false;rw[hf];simp)]
  obtain⟨x,hx⟩:∃x:ab,x=(bc o,0):=⟨_,rfl⟩
  obtain⟨y,hy⟩:∃y:ab,y=(bc o,1):=⟨_,rfl⟩
  have hxd:x∈an s.1.1:=by rw[hx];exact h.d.mi hf (.inl rfl)
  have Wm:y∈an s.1.1:=by rw[hy];exact h.d.mi hf (.inr rfl)
  have g1:=jr h.g h.n (x,dZ s.1 x)
  have hn:=h.n
  obtain⟨p1,q1⟩:=ed h.d.rw hxd
  have aac:y∈an (az s.1 x).1:=by
   rcases List.mem_cons.1 (p1.mem_iff.1 Wm) with k|k
   ·rw[hx,hy]at k;cases k
   ·exact k
  have KY:=jq (jq h.d.gv x) y
  refine⟨0,((az (az s.1 x) y).1,(dK s.1.2 (bc o),(bH (bH s.2 (x,dZ s.1 x)) (y,dZ s.1 y),()))),?_,?_⟩
  ·refine aI (fn:=Tryz.f155) (hG _ _ rfl) (by kernel_rfl) (by kernel_rfl) ((UD _ _ _).trans ?_)
   refine aa (mT hG (aD s) (bc o) h.d.se (by show s.1.2.length≤_;omega)) ?_
   refine aT ((cS (l:=s.1.2) h.d.se).trans hf) (af rfl ?_)
   have aad:FX G 179 yE ((bc o,()),())=some ((x,y,()),()):=by
    rw[hx,hy];exact aI (fn:=Tryz.f179) (hG _ _ rfl) (by kernel_rfl) (by kernel_rfl) (QM _ _ _)
   refine aa aad ?_
   refine aQ (j:=0) (by kernel_rfl) ((GR _ _ _).trans ?_)
   refine ae rfl (ae rfl (aa (a:=x) rfl ?_))
   refine aa (Q6 hG (aD s) x h.d.rw hs hxd s.1.2) ?_
   refine aa (BP hG (aD s) x (dZ s.1 x) h.g (by show s.2.length≤_;omega)) ?_
   refine aQ (j:=0) (by kernel_rfl) ((GR _ _ _).trans ?_)
   refine ae rfl (ae rfl (aa (a:=y) rfl ?_))
   refine aa (Q6 hG (s.1.1,(s.1.2,(bH s.2 (x,dZ s.1 x),()))) y h.d.rw hs Wm s.1.2) ?_
   refine aa (BP hG (s.1.1,(s.1.2,(bH s.2 (x,dZ s.1 x),()))) y (dZ s.1 y) g1.1 (by have:=g1.2;show(bH s.2 (x,dZ s.1 x)).length≤_;omega)) ?_
   refine aQ (j:=0) (by kernel_rfl) ((GR _ _ _).trans ?_)
   refine af rfl ?_
   generalize bH (bH s.2 (x,dZ s.1 x)) (y,dZ s.1 y)=gg
   obtain⟨k,v,hk,j0,hv⟩:=pU hxd
   refine aQ (j:=1) (by kernel_rfl) ((GS _ _ _).trans ?_)
   refine ae rfl (ae rfl (aa (a:=x) rfl ?_))
   refine aa (BQ hG (s.1.1,(s.1.2,(gg,()))) x h.d.rw hs.n hs.r hk j0) ?_
   refine rC rfl (ae rfl (aa hk ?_))
   refine aa (Q3 hG v.2.1 x (h.d.rw.ring hv) (hs.r v hv)) ?_
   refine aa hk ?_
   have e1:s.1.1.set k (v.1,(hY v.2.1 x,v.2.2))=(az s.1 x).1:=IK (w:=(s.1.1,(s.1.2,(gg,())))) h.d.rw hk j0 s.1.2
   have Dh:Sv (az s.1 x).1:=by
    rw[jo h.d.rw hv j0]
    exact hs.re _ (Nat.le_trans (zB x) (hs.r v hv))
   obtain⟨k2,v2,nc,On,vC⟩:=pU aac
   have e2:(az s.1 x).1.set k2 (v2.1,(hY v2.2.1 y,v2.2.2))=(az (az s.1 x) y).1:=IK (w:=((az s.1 x).1,(s.1.2,(gg,())))) q1 nc On (az s.1 x).2
   have rest:∀a:List ah,a=(az s.1 x).1→LX G 155 yD Tryz.f155 uQ (bY Tryz.prog 155 1) ((((bN s.1.2 (bc o):Nat):Int),((2:Int),((1:Int),()))),(((a,(s.1.2,(gg,()))),()),([x,y],())))=some (((0:Int),()),(((az (az s.1 x) y).1,(dK s.1.2 (bc o),(gg,()))),())):=by
    intro a ha
    subst ha
    refine aQ (j:=1) (by kernel_rfl) ((GS _ _ _).trans ?_)
    refine ae rfl (ae rfl (aa (a:=y) rfl ?_))
    refine aa (BQ hG ((az s.1 x).1,(s.1.2,(gg,()))) y q1 Dh.n Dh.r nc On) ?_
    refine rC rfl (ae rfl (aa nc ?_))
    refine aa (Q3 hG v2.2.1 y (q1.ring vC) (Dh.r v2 vC)) ?_
    refine aa nc ?_
    have last:∀b:List ah,b=(az (az s.1 x) y).1→LX G 155 yD Tryz.f155 uQ (bY Tryz.prog 155 1) ((((bN s.1.2 (bc o):Nat):Int),((2:Int),((2:Int),()))),(((b,(s.1.2,(gg,()))),()),([x,y],())))=some (((0:Int),()),(((az (az s.1 x) y).1,(dK s.1.2 (bc o),(gg,()))),())):=by
     intro b hb
     subst hb
     refine aQ (j:=1) (by kernel_rfl) ((GS _ _ _).trans ?_)
     obtain⟨d1,d2⟩:=E9 h.d.se hf (by omega)
     refine af rfl (ae d1 ?_)
     exact congrArg (fun l:List aq=>some (((0:Int),()),(((az (az s.1 x) y).1,(l,(gg,()))),()))) d2
    exact last _ e2
   exact rest _ e1
  ·rw[←hx,←hy]
   unfold aP
   rw[tR KY]
   rfl
end Go.Vs
namespace Go.Vs
open Go.Proofs
variable {G:(f:FuncId)→(g:aK)→Option (g.A→Option g.B)}
theorem Hj{n:Int}(h0:0≤n)(h3:n≤3):cP .xor .i64 1 (cP .and .i64 n 1)=IntKind.wrap .i64 (1-Int.tmod n 2)∧kc .i64 n 1=IntKind.wrap .i64 (Int.tdiv n 2):=by
 have:n=0∨n=1∨n=2∨n=3:=by omega
 rcases this with rfl|rfl|rfl|rfl<;>exact⟨by decide,by decide⟩
theorem Fa{l:List ah}{x:ab}(hw:Rw l){k:Nat}{v:ah}(hk:l[k]? = some v)(hx:x∈v.2.1)(y:ab)(e:List aq):l.set k (v.1,(la v.2.1 x y,v.2.2))=(aC (l,e) x y).1:=by
 rw[zt (d:=(l,e)) hw y (List.mem_of_getElem? hk) hx]
 exact Hi hw.s hk _
theorem aae(hG:HG G)(s:StateT)(o:bh)(h:fb s)(hs:Sv s.1.1)(hm:cz o=0)(Su:o.1=5) :
    ∃(e:Int) (w:aB),FX G 156 wy ((o,()),(aD s,()))=some ((e,()),(w,()))∧iG e w=nX s o:=by
  have aU:=h.d.ne;have OD:=h.d.nv
  obtain⟨m1,m2,m3,m4⟩:=BJ hm Su
  obtain⟨s1,s2⟩:=E6 m3 m4
  obtain⟨c1,c2⟩:=Hj m3 m4
  have key:∀(e:Int) (w:aB),FX G 156 wy ((o,()),(aD s,()))=some ((e,()),(w,()))→iG e w=nX s o→∃(e:Int) (w:aB),FX G 156 wy ((o,()),(aD s,()))=some ((e,()),(w,()))∧iG e w=nX s o:=fun e w a b=>⟨e,w,a,b⟩
  have start:∀(e:Int) (w:aB),dt 156 wy Tryz.f156 (FX G) (LX G 156 wy Tryz.f156) ((o,()),(aD s,()))=some ((e,()),(w,()))→FX G 156 wy ((o,()),(aD s,()))=some ((e,()),(w,())):=fun e w a =>
    aI (fn:=Tryz.f156) (hG _ _ rfl) (by kernel_rfl) (by kernel_rfl) a
  unfold nX
  cases hf:(aO s.1.2 (bc o)).isSome with
  |false =>
    refine⟨13,aD s,start _ _ ((O9 _ _ _).trans ?_),?_⟩
    · refine aa (mT hG (aD s) (bc o) h.d.se (by show s.1.2.length≤_;omega)) ?_
      refine aa (oC hG (aD s) (fC o) h.d.sv (by show s.1.1.length≤_;omega)) ?_
      refine aa (mT hG (aD s) (bE o) h.d.se (by show s.1.2.length≤_;omega)) ?_
      exact aT ((cS (l:=s.1.2) h.d.se).trans hf) rfl
    · rw[if_pos (show(mO s.1 (bc o)).isSome=false from hf)];rfl
  |true =>
  rw[if_neg (show ¬(mO s.1 (bc o)).isSome=false by show ¬(aO s.1.2 (bc o)).isSome=false;rw[hf];simp)]
  cases OV:(aM s.1.1 (fC o)).isSome with
  |true =>
    refine⟨12,aD s,start _ _ ((O9 _ _ _).trans ?_),?_⟩
    · refine aa (mT hG (aD s) (bc o) h.d.se (by show s.1.2.length≤_;omega)) ?_
      refine aa (oC hG (aD s) (fC o) h.d.sv (by show s.1.1.length≤_;omega)) ?_
      refine aa (mT hG (aD s) (bE o) h.d.se (by show s.1.2.length≤_;omega)) ?_
      refine aT ((cS (l:=s.1.2) h.d.se).trans hf) (af rfl ?_)
      exact ae ((eO (l:=s.1.1) h.d.sv).trans OV) rfl
    · rw[if_pos (show(cp s.1 (fC o)).isSome=true from OV)];rfl
  |false =>
  rw[if_neg (show ¬(cp s.1 (fC o)).isSome=true by show ¬(aM s.1.1 (fC o)).isSome=true;rw[OV];simp)]
  cases Pe:(aO s.1.2 (bE o)).isSome with
  |true =>
    refine⟨12,aD s,start _ _ ((O9 _ _ _).trans ?_),?_⟩
    · refine aa (mT hG (aD s) (bc o) h.d.se (by show s.1.2.length≤_;omega)) ?_
      refine aa (oC hG (aD s) (fC o) h.d.sv (by show s.1.1.length≤_;omega)) ?_
      refine aa (mT hG (aD s) (bE o) h.d.se (by show s.1.2.length≤_;omega)) ?_
      refine aT ((cS (l:=s.1.2) h.d.se).trans hf) (af rfl ?_)
      refine af ((eO (l:=s.1.1) h.d.sv).trans OV) ?_
      exact ae ((cS (l:=s.1.2) h.d.se).trans Pe) rfl
    · rw[if_pos (show(mO s.1 (bE o)).isSome=true from Pe)];rfl
  |false =>
  rw[if_neg (show ¬(mO s.1 (bE o)).isSome=true by show ¬(aO s.1.2 (bE o)).isSome=true;rw[Pe];simp)]
  have aaf:aM s.1.1 (fC o)=none:=by simpa using OV
  have aag:aO s.1.2 (bE o)=none:=by simpa using Pe
  obtain⟨m,KT⟩:∃m:ab,m=PA o:=⟨_,rfl⟩
  obtain⟨kk,OJ⟩:∃m:ab,m=Om o:=⟨_,rfl⟩
  have X7:m∈an s.1.1:=by rw[KT];exact h.d.mi hf s1
  have FY:ao kk∉an s.1.1:=by rw[OJ];exact h.d.xa aag _
  obtain⟨p1,q1⟩:=n8 h.d.rw X7 FY
  have nc:kk.2=0∨kk.2=1:=by rw[OJ];exact s2
  obtain⟨k,v,hk,j0,hv⟩:=pU X7
  have e1:s.1.1.set k (v.1,(la v.2.1 m (ao kk),v.2.2))=(aC s.1 m (ao kk)).1:=Fa h.d.rw hk j0 _ s.1.2
  have hlen:(aC s.1 m (ao kk)).1.length=s.1.1.length:=by unfold aC;exact eg _ _ _
  have PE:aM (aC s.1 m (ao kk)).1 (fC o)=none:=by
    unfold aC Vs.bV
    rw[mS (pS _ _),aaf];rfl
  have eM:((bc o,cP .xor .i64 1 (cP .and .i64 (oN o) 1)):ab)=m:=by rw[KT,c1];rfl
  have eK:((bE o,kc .i64 (oN o) 1):ab)=kk:=by rw[OJ,c2];rfl
  have go:∀(e:Int) (w:aB),(∀a:List ah,a=(aC s.1 m (ao kk)).1→((FX G 152 Eg (((fC o,(cM [m,kk],(e0,(0:Int)))),()),((a,(s.1.2,(s.2,()))),()))).bind fun(mo:((Int×Unit)×(aB×Unit))) =>
       cond (mo.1.1 != (0:Int))
        (some (mo.1,((mo.2.1.1,(mo.2.1.2.1,mo.2.1.2.2)),())))
        ((FX G 178 vX ((bE o,()),((mo.2.1.1,(mo.2.1.2.1,mo.2.1.2.2)),()))).bind fun(nR:((Int×Unit)×(aB×Unit))) =>
        some (nR.1,((nR.2.1.1,(nR.2.1.2.1,nR.2.1.2.2)),()))))=some ((e,()),(w,())))→FX G 156 wy ((o,()),(aD s,()))=some ((e,()),(w,())):=fun e w rest=>by
    refine start _ _ ((O9 _ _ _).trans ?_)
    refine aa (mT hG (aD s) (bc o) h.d.se (by show s.1.2.length≤_;omega)) ?_
    refine aa (oC hG (aD s) (fC o) h.d.sv (by show s.1.1.length≤_;omega)) ?_
    refine aa (mT hG (aD s) (bE o) h.d.se (by show s.1.2.length≤_;omega)) ?_
    refine aT ((cS (l:=s.1.2) h.d.se).trans hf) (af rfl ?_)
    refine af ((eO (l:=s.1.1) h.d.sv).trans OV) ?_
    refine af ((cS (l:=s.1.2) h.d.se).trans Pe) ?_
    refine af rfl ?_
    have body:∀mm k2:ab,mm=m→k2=kk→((FX G 185 kV ((mm,()),(aD s,()))).bind fun(y4:(((Option ((Fin 1)×Nat))×Unit)×(aB×Unit))) =>
      oT y4.1.1
       (none) fun(p5:((Fin 1)×Nat)) =>
      cond (p5.1.val==0)
       (((y4.2.1.1)[p5.2]?).bind fun(y6:ah) =>
       (FX G 188 mK ((k2,()),())).bind fun(y7:((ab×Unit)×Unit)) =>
       (FX G 187 rp ((y6.2.1,(mm,((y7.1.1.1,y7.1.1.2),()))),())).bind fun(y8:(((List ab)×Unit)×Unit)) =>
       ((y4.2.1.1)[p5.2]?).bind fun(y9:ah) =>
       (FX G 169 pJ (([mm,k2],()),())).bind fun(oM:(((List ab)×Unit)×Unit)) =>
       (FX G 152 Eg (((fC o,(oM.1.1,((⟨#[]⟩:ByteArray),(0:Int)))),()),(((List.set y4.2.1.1 p5.2 (y9.1,(y8.1.1,y9.2.2))),(y4.2.1.2.1,y4.2.1.2.2)),()))).bind fun(mo:((Int×Unit)×(aB×Unit))) =>
       cond (mo.1.1 != (0:Int))
        (some (mo.1,((mo.2.1.1,(mo.2.1.2.1,mo.2.1.2.2)),())))
        ((FX G 178 vX ((bE o,()),((mo.2.1.1,(mo.2.1.2.1,mo.2.1.2.2)),()))).bind fun(nR:((Int×Unit)×(aB×Unit))) =>
        some (nR.1,((nR.2.1.1,(nR.2.1.2.1,nR.2.1.2.2)),()))))
       (none))=some ((e,()),(w,())):=by
      intro mm k2 aah aai
      subst aah aai
      refine aa (BQ hG (aD s) mm h.d.rw hs.n hs.r hk j0) ?_
      refine rC rfl (ae rfl (aa hk ?_))
      refine aa (E8 (hG _ _ rfl) k2 nc) ?_
      refine aa (Q4 hG v.2.1 mm (ao k2) (hs.r v hv)) ?_
      refine aa hk ?_
      refine aa (BE hG [mm,k2] (by simp)) ?_
      exact rest _ e1
    exact body _ _ eM eK
  have aaj:24≤s.1.1.length→oD ((aC s.1 m (ao kk)).1,(s.1.2,(s.2,()))) (fC o,(cM [m,kk],(e0,0)))=(3,((aC s.1 m (ao kk)).1,(s.1.2,(s.2,())))):=fun hb=>by
    unfold oD
    rw[if_neg (by rw[show aM ((aC s.1 m (ao kk)).1,(s.1.2,(s.2,()))).1 ((fC o,(cM [m,kk],(e0,0))):ah).1=none from PE];simp)]
    rw[if_pos (by show 24≤(aC s.1 m (ao kk)).1.length;omega)]
  have Sw:¬24≤s.1.1.length→oD ((aC s.1 m (ao kk)).1,(s.1.2,(s.2,()))) (fC o,(cM [m,kk],(e0,0)))=(0,(eZ (fC o,(cM [m,kk],(e0,0))) (aC s.1 m (ao kk)).1,(s.1.2,(s.2,())))):=fun hb=>by
    unfold oD
    rw[if_neg (by rw[show aM ((aC s.1 m (ao kk)).1,(s.1.2,(s.2,()))).1 ((fC o,(cM [m,kk],(e0,0))):ah).1=none from PE];simp)]
    rw[if_neg (by show ¬24≤(aC s.1 m (ao kk)).1.length;omega)]
  by_cases hb:24≤s.1.1.length
  · refine⟨3,((aC s.1 m (ao kk)).1,(s.1.2,(s.2,()))),go _ _ (fun a ha=>?_),?_⟩
    · subst ha
      refine aa (So hG ((aC s.1 m (ao kk)).1,(s.1.2,(s.2,()))) (fC o,(cM [m,kk],(e0,0))) q1.s (by show(aC s.1 m (ao kk)).1.length≤_;omega)) ?_
      rw[aaj hb]
      exact ae rfl rfl
    · rw[if_pos hb];rfl
  rw[if_neg hb]
  have hE:rD (eZ (fC o,(cM [m,kk],(e0,0))) (aC s.1 m (ao kk)).1,(s.1.2,(s.2,()))) (bE o)=if 40≤s.1.2.length then(3,(eZ (fC o,(cM [m,kk],(e0,0))) (aC s.1 m (ao kk)).1,(s.1.2,(s.2,())))) else(0,(eZ (fC o,(cM [m,kk],(e0,0))) (aC s.1 m (ao kk)).1,(eU (bE o,(e0,0)) s.1.2,(s.2,())))):=by
    unfold rD
    rw[if_neg (by show ¬(aO s.1.2 (bE o)).isSome=true;rw[Pe];simp)]
  have fin:FX G 156 wy ((o,()),(aD s,()))=some (((rD (eZ (fC o,(cM [m,kk],(e0,0))) (aC s.1 m (ao kk)).1,(s.1.2,(s.2,()))) (bE o)).1,()),((rD (eZ (fC o,(cM [m,kk],(e0,0))) (aC s.1 m (ao kk)).1,(s.1.2,(s.2,()))) (bE o)).2,())):=by
    refine go _ _ (fun a ha=>?_)
    subst ha
    refine aa (So hG ((aC s.1 m (ao kk)).1,(s.1.2,(s.2,()))) (fC o,(cM [m,kk],(e0,0))) q1.s (by show(aC s.1 m (ao kk)).1.length≤_;omega)) ?_
    rw[Sw hb]
    refine af rfl ?_
    exact aa (QZ hG (eZ (fC o,(cM [m,kk],(e0,0))) (aC s.1 m (ao kk)).1,(s.1.2,(s.2,()))) (bE o) h.d.se (by show s.1.2.length≤_;omega)) rfl
  rw[hE]at fin
  by_cases VJ:40≤s.1.2.length
  · rw[if_pos VJ]at fin ⊢
    exact⟨_,_,fin,rfl⟩
  · rw[if_neg VJ]at fin ⊢
    refine⟨_,_,fin,?_⟩
    rw[KT,OJ];rfl
theorem aak(hG:HG G)(s:StateT)(o:bh)(h:fb s)(hs:Sv s.1.1) :
    ∃(e:Int) (w:aB),FX G 157 pI ((o,()),(aD s,()))=some ((e,()),(w,()))∧iG e w=nY s o:=by
  have aU:=h.d.ne;have OD:=h.d.nv;have hgn:=h.n
  have start:∀(e:Int) (w:aB),dt 157 pI Tryz.f157 (FX G) (LX G 157 pI Tryz.f157) ((o,()),(aD s,()))=some ((e,()),(w,()))→FX G 157 pI ((o,()),(aD s,()))=some ((e,()),(w,())):=fun e w a =>
    aI (fn:=Tryz.f157) (hG _ _ rfl) (by kernel_rfl) (by kernel_rfl) a
  unfold nY
  cases hf:aM s.1.1 (bc o) with
  |none =>
    refine⟨13,aD s,start _ _ ((UE _ _ _).trans ?_),?_⟩
    · refine aa (oC hG (aD s) (bc o) h.d.sv (by show s.1.1.length≤_;omega)) ?_
      exact aT ((eO (l:=s.1.1) h.d.sv).trans (by rw[hf])) rfl
    · rw[show cp s.1 (bc o)=none from hf];rfl
  |some v =>
  have hfs:(aM s.1.1 (bc o)).isSome=true:=by rw[hf];rfl
  have hv:=fM hf
  have Wj:=jR hf
  have l9:=cO h.d.sv hf
  have aG:=(List.getElem?_eq_some_iff.1 l9).1
  have YH:=h.d.rw
  have go:∀(e:Int) (w:aB),(cond ((((List.length v.2.1):Nat):Int) != (2:Int)) (some (((14:Int),()),(aD s,()))) _=some ((e,()),(w,())))→FX G 157 pI ((o,()),(aD s,()))=some ((e,()),(w,())):=fun e w rest=>by
    refine start _ _ ((UE _ _ _).trans ?_)
    refine aa (oC hG (aD s) (bc o) h.d.sv (by show s.1.1.length≤_;omega)) ?_
    refine aT ((eO (l:=s.1.1) h.d.sv).trans hfs) (af rfl ?_)
    refine ae (eV (jN _) (cg aG)) (aa l9 ?_)
    exact rest
  rw[show cp s.1 (bc o)=some v from hf]
  by_cases wH:v.2.1.length=2
  case neg =>
    refine⟨14,aD s,go _ _ (ae (by rw[bne_iff_ne];omega) rfl),?_⟩
    show iG 14 (aD s)=(match v.2.1 with | [r0,r1]=>lQ s o r0 r1|_=>(zS,(14,())))
    split
    · rename_i hr;rw[hr]at wH;exact absurd rfl wH
    · rfl
  obtain⟨r0,r1,hr⟩:∃r0 r1,v.2.1=[r0,r1]:=by
    match hq:v.2.1,wH with
    |[a,b],_=>exact⟨a,b,rfl⟩
  have Bl:(((List.length v.2.1:Nat):Int) != (2:Int))=false:=by rw[wH];rfl
  have g0:dw v.2.1 (0:Int)=some r0:=by rw[hr];rfl
  have g1:dw v.2.1 (1:Int)=some r1:=by rw[hr];rfl
  show ∃(e:Int) (w:aB),FX G 157 pI ((o,()),(aD s,()))=some ((e,()),(w,()))∧iG e w=(match v.2.1 with | [r0,r1]=>lQ s o r0 r1|_=>(zS,(14,())))
  rw[hr]
  show ∃(e:Int) (w:aB),FX G 157 pI ((o,()),(aD s,()))=some ((e,()),(w,()))∧iG e w=lQ s o r0 r1
  unfold lQ
  by_cases TI:r0.1=r1.1
  · refine⟨14,aD s,go _ _ (af Bl (aa g0 (aa g1 (ae ((ER r0.1 r1.1).trans (decide_eq_true TI)) rfl)))),?_⟩
    rw[if_pos TI];rfl
  rw[if_neg TI]
  have b01:=(ER r0.1 r1.1).trans (decide_eq_false TI)
  have tail:∀a b:ab,v.2.1.Perm [a,b]→a.1≠b.1→((FX G 188 mK ((b,()),())).bind fun(y7:((ab×Unit)×Unit)) =>
        cond (iM s.1.1 ((bj s.1.1 (bc o):Nat):Int) (IntKind.wrap .i64 (((bj s.1.1 (bc o):Nat):Int)+(1:Int))))
         ((FX G 185 kV (((y7.1.1.1,y7.1.1.2),()),(((cX s.1.1 ((bj s.1.1 (bc o):Nat):Int) (IntKind.wrap .i64 (((bj s.1.1 (bc o):Nat):Int)+(1:Int)))),(s.1.2,(s.2,()))),()))).bind fun(y8:(((Option ((Fin 1)×Nat))×Unit)×(aB×Unit))) =>
         oT y8.1.1
          (none) fun(p9:((Fin 1)×Nat)) =>
         cond (p9.1.val==0)
          (((y8.2.1.1)[p9.2]?).bind fun(oM:ah) =>
          (FX G 187 rp ((oM.2.1,((y7.1.1.1,y7.1.1.2),(a,()))),())).bind fun(mo:(((List ab)×Unit)×Unit)) =>
          ((y8.2.1.1)[p9.2]?).bind fun(nR:ah) =>
          (FX G 182 lM ((b.1,()),(((List.set y8.2.1.1 p9.2 (nR.1,(mo.1.1,nR.2.2))),(y8.2.1.2.1,y8.2.1.2.2)),()))).bind fun(lA:((Int×(Bool×Unit))×(aB×Unit))) =>
          cond (iM lA.2.1.2.1 lA.1.1 (IntKind.wrap .i64 (lA.1.1+(1:Int))))
           (LX G 157 pI Tryz.f157 mh (bY Tryz.prog 157 0) (((0:Int),()),(((lA.2.1.1,((cX lA.2.1.2.1 lA.1.1 (IntKind.wrap .i64 (lA.1.1+(1:Int)))),lA.2.1.2.2)),((a,()),((b,()),(((y7.1.1.1,y7.1.1.2),()),())))),())))
           (none))
          (none))
         (none))=some (((0:Int),()),(((Kc s o a b).1,((Kc s o a b).2,(G9 s.2 a b,()))),())):=by
    intro a b hp Ai
    obtain⟨p,q,h1,_,h2,_⟩:=pT h.d.sv hv
    have pd:(an s.1.1).Perm (a::b::an (p++q)):=by
      have:=(gZ p q v).trans (List.Perm.append_right _ hp)
      rw[←h1]at this;exact this
    have IL:eE s.1.1 (bc o)=p++q:=by rw[←Wj];exact h2
    have Kp:aP s.1 (bc o) zI=(p++q,s.1.2):=by unfold aP;rw[IL,tQ h.d.ge]
    have Dg:=pd.nodup_iff.1 YH.n
    have ZZ:b∈ends s.1.2:=h.d.pd.mem_iff.1 (pd.mem_iff.2 (by simp))
    obtain⟨e,he,Uk,Au⟩:=dP.1 ZZ
    have Cw:(aO s.1.2 b.1).isSome=true:=by
      unfold aO;rw[List.find?_isSome];exact⟨e,he,by simpa using Uk⟩
    obtain⟨_,ho⟩:=g8 Au
    have Sr:ao b∈an (p++q):=by
      have h3:ao b∈an s.1.1:=h.d.mi (s:=(ao b).2) Cw (by rcases ho with⟨_,k⟩|⟨_,k⟩<;>omega)
      rcases List.mem_cons.1 (pd.mem_iff.1 h3) with k|k
      · exact absurd (congrArg Prod.fst k) (fun k=>Ai k.symm)
      rcases List.mem_cons.1 k with k|k
      · have:=congrArg Prod.snd k;omega
      · exact k
    have PF:Rw (p++q):=⟨by rw[←h2];exact n3 h.d.sv,(List.nodup_cons.1 (List.nodup_cons.1 Dg).2).2⟩
    have aZ:∀u∈p++q,u∈s.1.1:=fun u hu=>by
      rw[h1]
      rcases List.mem_append.1 hu with k|k
      · exact List.mem_append_left _ k
      · exact List.mem_append_right _ (List.mem_cons_of_mem _ k)
    have Dh:Sv (p++q):=⟨by
      have:=hs.n;rw[h1]at this;simp at this ⊢;omega,fun u hu=>hs.r u (aZ u hu)⟩
    obtain⟨dk1,dk2⟩:=M7 h.d.sv hfs (by omega)
    rw[IL]at dk2
    obtain⟨k,u,hk,hxu,hu⟩:=pU Sr
    have e1:(p++q).set k (u.1,(la u.2.1 (ao b) a,u.2.2))=(aC (p++q,s.1.2) (ao b) a).1:=Fa PF hk hxu _ s.1.2
    have KY:∀w∈(aC (p++q,s.1.2) (ao b) a).1,GV w:=su (d:=(p++q,s.1.2)) (fun w hw=>h.d.gv w (aZ w hw)) _ _
    have eD:Kc s o a b=((aC (p++q,s.1.2) (ao b) a).1,dK s.1.2 b.1):=by
      unfold Kc
      rw[Kp]
      unfold aP
      rw[tR KY];rfl
    have ga:=jr h.g h.n ((b.1,0),so a b 0)
    rw[eD]
    refine aa (E8 (hG _ _ rfl) b Au) ?_
    refine ae dk1 ?_
    have r1:∀l1:List ah,l1=p++q→((FX G 185 kV ((ao b,()),((l1,(s.1.2,(s.2,()))),()))).bind fun(y8:(((Option ((Fin 1)×Nat))×Unit)×(aB×Unit))) =>
         oT y8.1.1
          (none) fun(p9:((Fin 1)×Nat)) =>
         cond (p9.1.val==0)
          (((y8.2.1.1)[p9.2]?).bind fun(oM:ah) =>
          (FX G 187 rp ((oM.2.1,(ao b,(a,()))),())).bind fun(mo:(((List ab)×Unit)×Unit)) =>
          ((y8.2.1.1)[p9.2]?).bind fun(nR:ah) =>
          (FX G 182 lM ((b.1,()),(((List.set y8.2.1.1 p9.2 (nR.1,(mo.1.1,nR.2.2))),(y8.2.1.2.1,y8.2.1.2.2)),()))).bind fun(lA:((Int×(Bool×Unit))×(aB×Unit))) =>
          cond (iM lA.2.1.2.1 lA.1.1 (IntKind.wrap .i64 (lA.1.1+(1:Int))))
           (LX G 157 pI Tryz.f157 mh (bY Tryz.prog 157 0) (((0:Int),()),(((lA.2.1.1,((cX lA.2.1.2.1 lA.1.1 (IntKind.wrap .i64 (lA.1.1+(1:Int)))),lA.2.1.2.2)),((a,()),((b,()),((ao b,()),())))),())))
           (none))
          (none))=some (((0:Int),()),(((aC (p++q,s.1.2) (ao b) a).1,(dK s.1.2 b.1,(G9 s.2 a b,()))),())):=by
      intro l1 XG
      subst XG
      refine aa (BQ hG (p++q,(s.1.2,(s.2,()))) (ao b) PF Dh.n Dh.r hk hxu) ?_
      refine rC rfl (ae rfl (aa hk ?_))
      refine aa (Q4 hG u.2.1 (ao b) a (Dh.r u hu)) ?_
      refine aa hk ?_
      have r2:∀l2:List ah,l2=(aC (p++q,s.1.2) (ao b) a).1→((FX G 182 lM ((b.1,()),((l2,(s.1.2,(s.2,()))),()))).bind fun(lA:((Int×(Bool×Unit))×(aB×Unit))) =>
          cond (iM lA.2.1.2.1 lA.1.1 (IntKind.wrap .i64 (lA.1.1+(1:Int))))
           (LX G 157 pI Tryz.f157 mh (bY Tryz.prog 157 0) (((0:Int),()),(((lA.2.1.1,((cX lA.2.1.2.1 lA.1.1 (IntKind.wrap .i64 (lA.1.1+(1:Int)))),lA.2.1.2.2)),((a,()),((b,()),((ao b,()),())))),())))
           (none))=some (((0:Int),()),(((aC (p++q,s.1.2) (ao b) a).1,(dK s.1.2 b.1,(G9 s.2 a b,()))),())):=by
        intro l2 wH
        subst wH
        refine aa (mT hG ((aC (p++q,s.1.2) (ao b) a).1,(s.1.2,(s.2,()))) b.1 h.d.se (by show s.1.2.length≤_;omega)) ?_
        obtain⟨ek1,ek2⟩:=E9 h.d.se Cw (by omega)
        refine ae ek1 ?_
        have r3:∀l3:List aq,l3=dK s.1.2 b.1→(LX G 157 pI Tryz.f157 mh (bY Tryz.prog 157 0) (((0:Int),()),((((aC (p++q,s.1.2) (ao b) a).1,(l3,(s.2,()))),((a,()),((b,()),((ao b,()),())))),())))=some (((0:Int),()),(((aC (p++q,s.1.2) (ao b) a).1,(dK s.1.2 b.1,(G9 s.2 a b,()))),())):=by
          intro l3 hl3
          subst hl3
          have eb:b=(b.1,b.2):=rfl
          have eo:ao b=(b.1,(ao b).2):=rfl
          rcases ho with⟨AH,Ic⟩|⟨Pc,XK⟩
          · rw[AH]at eb;rw[Ic]at eo
            have t0:so a b 0=zD:=by unfold so;rw[if_neg (by rw[eo];simp)]
            have t1:so a b 1=a:=by unfold so;rw[if_pos eo.symm]
            rw[t0,←eb]at ga
            have eG:G9 s.2 a b=bH (bH s.2 (b,zD)) (ao b,a):=by unfold G9;rw[t0,t1,←eb,←eo]
            rw[eG]
            refine aQ (j:=0) (by kernel_rfl) ((uT _ _ _).trans ?_)
            refine ae rfl (ae (by show(b.2==(0:Int))=true;simp[AH]) ?_)
            refine aa (BP hG ((aC (p++q,s.1.2) (ao b) a).1,(dK s.1.2 b.1,(s.2,()))) b zD h.g (by show s.2.length≤_;omega)) ?_
            refine aQ (j:=0) (by kernel_rfl) ((uT _ _ _).trans ?_)
            refine ae rfl (af (by show(b.2==(1:Int))=false;simp[AH]) ?_)
            refine aa (BP hG ((aC (p++q,s.1.2) (ao b) a).1,(dK s.1.2 b.1,(bH s.2 (b,zD),()))) (ao b) a ga.1 (by have:=ga.2;show(bH s.2 (b,zD)).length≤_;omega)) ?_
            refine aQ (j:=0) (by kernel_rfl) ((uT _ _ _).trans ?_)
            exact af rfl rfl
          · rw[Pc]at eb;rw[XK]at eo
            have t0:so a b 0=a:=by unfold so;rw[if_pos eo.symm]
            have t1:so a b 1=zD:=by unfold so;rw[if_neg (by rw[eo];simp)]
            rw[t0,←eo]at ga
            have eG:G9 s.2 a b=bH (bH s.2 (ao b,a)) (b,zD):=by unfold G9;rw[t0,t1,←eb,←eo]
            rw[eG]
            refine aQ (j:=0) (by kernel_rfl) ((uT _ _ _).trans ?_)
            refine ae rfl (af (by show(b.2==(0:Int))=false;simp[Pc]) ?_)
            refine aa (BP hG ((aC (p++q,s.1.2) (ao b) a).1,(dK s.1.2 b.1,(s.2,()))) (ao b) a h.g (by show s.2.length≤_;omega)) ?_
            refine aQ (j:=0) (by kernel_rfl) ((uT _ _ _).trans ?_)
            refine ae rfl (ae (by show(b.2==(1:Int))=true;simp[Pc]) ?_)
            refine aa (BP hG ((aC (p++q,s.1.2) (ao b) a).1,(dK s.1.2 b.1,(bH s.2 (ao b,a),()))) b zD ga.1 (by have:=ga.2;show(bH s.2 (ao b,a)).length≤_;omega)) ?_
            refine aQ (j:=0) (by kernel_rfl) ((uT _ _ _).trans ?_)
            exact af rfl rfl
        exact r3 _ ek2
      exact r2 _ e1
    exact r1 _ dk2
  have bo:∀y:ab,((y.1.1==(bE o).1)&&(y.1.2==(bE o).2))=decide (y.1=bE o):=fun y=>ER y.1 (bE o)
  by_cases h0:r0.1=bE o
  · rw[if_pos h0]
    refine⟨0,((Kc s o r1 r0).1,((Kc s o r1 r0).2,(G9 s.2 r1 r0,()))),go _ _ (af Bl (aa g0 (aa g1 (af b01 (aa g0 (aa g1 (ae ((bo r0).trans (decide_eq_true h0)) ?_))))))),rfl⟩
    refine aT ((bo r0).trans (decide_eq_true h0)) (af rfl ?_)
    exact tail r1 r0 (by rw[hr];exact List.Perm.swap _ _ _) (fun k=>TI k.symm)
  rw[if_neg h0]
  by_cases h1:r1.1=bE o
  · rw[if_pos h1]
    refine⟨0,((Kc s o r0 r1).1,((Kc s o r0 r1).2,(G9 s.2 r0 r1,()))),go _ _ (af Bl (aa g0 (aa g1 (af b01 (aa g0 (aa g1 (af ((bo r0).trans (decide_eq_false h0)) ?_))))))),rfl⟩
    refine aT ((bo r1).trans (decide_eq_true h1)) (af rfl ?_)
    exact tail r0 r1 (by rw[hr]) TI
  rw[if_neg h1]
  refine⟨14,aD s,go _ _ (af Bl (aa g0 (aa g1 (af b01 (aa g0 (aa g1 (af ((bo r0).trans (decide_eq_false h0)) ?_))))))),rfl⟩
  exact aT ((bo r1).trans (decide_eq_false h1)) (ae rfl rfl)
end Go.Vs
namespace Go.Vs
open Go.Proofs
theorem BR{row:List ab}(hn:row.Nodup){i j:Nat}{hi:i<row.length}{hj:j<row.length}(h:row[i]=row[j]):i=j:=by
 rcases Nat.lt_trichotomy i j with k|k|k
 ·exact absurd h (List.pairwise_iff_getElem.1 hn i j hi hj k)
 ·exact k
 ·exact absurd h.symm (List.pairwise_iff_getElem.1 hn j i hj hi k)
theorem BS{row:List ab}(hn:row.Nodup){i j:Nat}{x:ab}(hi:row[i]? = some x)(hj:row[j]? = some x):i=j:=by
 obtain⟨h1,h2⟩:=List.getElem?_eq_some_iff.1 hi
 obtain⟨h3,h4⟩:=List.getElem?_eq_some_iff.1 hj
 exact BR hn (h2.trans h4.symm)
theorem Fb(row:List ab):∃j,j≤row.length∧cM row=CT row j:=by
 by_cases h0:row.length=0
 ·have:row=[]:=by simpa using h0
  subst this;exact⟨0,by simp,rfl⟩
 ·exact⟨fz row row 0 0,Nat.le_of_lt (nT row row 0 0 (by omega) (by omega)),rfl⟩
theorem PH{row:List ab}(hn:row.Nodup){k:Nat}{x:ab}(hk:row[k]? = some x):idx x row 0=(k:Int):=by
 have:=Hf (d:=x) (row:=row) (k:=k) (i:=0) hk (fun j hj he=>by have:=BS hn hk he;omega)
 omega
end Go.Vs
namespace Go.Vs
open Go.Proofs
variable {G:(f:FuncId)→(g:aK)→Option (g.A→Option g.B)}
theorem Kr(l:List ah)(x:ID):l.any (fun w=>decide (w.1=x))=(aM l x).isSome:=by
 rw[Bool.eq_iff_iff,List.any_eq_true];unfold aM;rw[List.find?_isSome]
theorem Ks(l:List aq)(x:ID):l.any (fun w=>decide (w.1=x))=(aO l x).isSome:=by
 rw[Bool.eq_iff_iff,List.any_eq_true];unfold aO;rw[List.find?_isSome]
theorem Kt(s:StateT)(o:bh):iG (sr (aD s) o).1 (sr (aD s) o).2=wC s o:=by
 unfold sr wC V5 V6
 rw[Kr,Ks]
 by_cases ho:uZ o=true
 ·have hv:s.1.1.map (nW o)=s.1.1:=by
   conv=>rhs;rw[←List.map_id s.1.1]
   exact List.map_congr_left fun u hu=>by unfold nW;rw[if_neg (by rw[ho];simp)];rfl
  rw[if_pos ho,ho,hv]
  show iG (if(aO s.1.2 (bc o)).isSome=true then _ else _:Int×aB).1 (if(aO s.1.2 (bc o)).isSome=true then _ else _:Int×aB).2=_
  cases (aO s.1.2 (bc o)).isSome<;>rfl
 ·have ma:uZ o=false:=by simpa using ho
  have he:s.1.2.map (sj o)=s.1.2:=by
   conv=>rhs;rw[←List.map_id s.1.2]
   exact List.map_congr_left fun u hu=>by unfold sj;rw[if_neg (by rw[ma];simp)];rfl
  rw[if_neg ho,ma,he]
  show iG (if(aM s.1.1 (bc o)).isSome=true then _ else _:Int×aB).1 (if(aM s.1.1 (bc o)).isSome=true then _ else _:Int×aB).2=_
  cases (aM s.1.1 (bc o)).isSome<;>rfl
theorem M8(hG:HG G)(w:aB)(o:bh)(hk:7≤o.1)(hv:bM w.1)(he:cV w.2.1)(Q0:w.1.length≤50000000)(hle:w.2.1.length≤50000000) :
  FX G 131 CI ((o,()),(w,()))=some (((sr w o).1,()),((sr w o).2,())):=by
 refine aI (fn:=Tryz.f131) (hG _ _ rfl) (by kernel_rfl) (by kernel_rfl) ((GQ _ _ _).trans ?_)
 have kn:∀k:Int,k<7→(o.1==k)=false:=fun k nc=>we (by omega)
 refine af (kn 1 (by omega)) (af (kn 2 (by omega)) (af (kn 3 (by omega)) (af (kn 4 (by omega)) (af (kn 5 (by omega)) (af (kn 6 (by omega)) ?_)))))
 exact aa (ZX hG w o hv he Q0 hle) rfl
def opL(x:ID)(e:Bool)(t:ByteArray):bh:=(7,(x,(zI,(zI,(zC,(zC,(e,(t,0))))))))
def opA(x:ID)(e:Bool)(n:Int):bh:=(8,(x,(zI,(zI,(zC,(zC,(e,(e0,n))))))))
theorem Sx:IH 0:=by unfold IH;omega
theorem IM{l:List ah}(hs:bM l){v w:ah}(hv:v∈l)(hw:w∈l)(h:w.1=v.1):w=v:=by
 have h1:=jS hs hv
 have h2:=jS hs hw
 rw[h,h1]at h2
 exact(Option.some.inj h2).symm
structure Lay(s t:StateT):Prop where
 v:bM t.1.1
 e:cV t.1.2
 sm:Sm t.1
 g:t.2.length≤50000000
end Go.Vs
namespace Go.Vs
open Go.Proofs
variable {G:(f:FuncId)→(g:aK)→Option (g.A→Option g.B)}
theorem Fc(l:List aq):(ends l).length=2*l.length:=by
 induction l with
 |nil=>rfl
 |cons e r ih=>rw[jm];simp[ih];omega
theorem PI{l:List ah}{v:ah}(h:v∈l):v.2.1.length≤(an l).length:=by
 obtain⟨a,b,rfl⟩:=List.append_of_mem h
 rw[mV,jl];simp;omega
theorem Wf.vh{d:ak}(h:Wf d):∀v∈d.1,v.2.1.length≤80:=fun v hv=>by
 have h1:=PI hv
 have h2:=h.pd.length_eq
 have h3:=h.ne
 rw[Fc]at h2;omega
theorem Wf.sm{d:ak}(h:Wf d):Sm d:=⟨by have:=h.nv;omega,by have:=h.ne;omega,fun v hv=>by have:=h.vh v hv;omega⟩
theorem Wf.small{d:ak}(h:Wf d):Sv d.1:=⟨by have:=h.nv;omega,fun v hv=>by have:=h.vh v hv;omega⟩
theorem Ku(s:StateT)(o:bh):iG (oD (aD s) (bc o,([],(e0,0)))).1 (oD (aD s) (bc o,([],(e0,0)))).2=pR s o:=by
 by_cases hh:(aM s.1.1 (bc o)).isSome=true
 ·have a:oD (aD s) (bc o,([],(e0,0)))=(12,aD s):=if_pos hh
  have b:pR s o=(zS,(12,())):=if_pos hh
  rw[a,b];rfl
 by_cases h:24≤s.1.1.length
 ·have a:oD (aD s) (bc o,([],(e0,0)))=(3,aD s):=(if_neg hh).trans (if_pos h)
  have b:pR s o=(zS,(3,())):=(if_neg hh).trans (if_pos h)
  rw[a,b];rfl
 ·have a:oD (aD s) (bc o,([],(e0,0)))=(0,(eZ (bc o,([],(e0,0))) (aD s).1,(aD s).2)):=(if_neg hh).trans (if_neg h)
  have b:pR s o=(((eZ (bc o,([],(e0,0))) s.1.1,s.1.2),s.2),(0,())):=(if_neg hh).trans (if_neg h)
  rw[a,b];rfl
theorem Kv{s:StateT}(h:fb s)(o:bh):iG (BC (aD s) (bc o)).1 (BC (aD s) (bc o)).2=zi s o:=by
 unfold BC zi cp
 show iG (match aM s.1.1 (bc o) with|none=>(13,aD s)|some v=>if 0<v.2.1.length then(14,aD s) else(0,(eE s.1.1 (bc o),(s.1.2,(s.2,())))):Int×aB).1 (match aM s.1.1 (bc o) with|none=>(13,aD s)|some v=>if 0<v.2.1.length then(14,aD s) else(0,(eE s.1.1 (bc o),(s.1.2,(s.2,())))):Int×aB).2=_
 cases aM s.1.1 (bc o) with
 |none=>rfl
 |some v =>
  simp only
  by_cases hl:0<v.2.1.length
  ·rw[if_pos hl,if_pos hl];rfl
  ·rw[if_neg hl,if_neg hl]
   unfold aP
   rw[tQ h.d.ge];rfl
def IN(s:StateT)(o:bh):StateT×(Int×Unit) :=
 if o.1=1 then pR s o else if o.1=2 then zi s o else if o.1=3 then rB s o else if o.1=4 then G8 s o else if o.1=5 then nX s o else if o.1=6 then nY s o else wC s o
theorem Kw(s:StateT)(o:bh):oK s o=if cz o≠0 then(zS,(cz o,())) else IN s o:=rfl
theorem M9(hG:HG G)(s:StateT)(o:bh)(h:fb s)(hm:cz o=0)(h3:o.1=3→∃(e:Int) (w:aB),FX G 154 nP ((o,()),(aD s,()))=some ((e,()),(w,()))∧iG e w=rB s o) :
  ∃(e:Int) (w:aB),FX G 131 CI ((o,()),(aD s,()))=some ((e,()),(w,()))∧iG e w=IN s o:=by
 have hk:=zy hm
 have PJ:=h.d.small
 have OD:=h.d.nv;have aU:=h.d.ne
 have start:∀(e:Int) (w:aB),dt 131 CI Tryz.f131 (FX G) (LX G 131 CI Tryz.f131) ((o,()),(aD s,()))=some ((e,()),(w,()))→FX G 131 CI ((o,()),(aD s,()))=some ((e,()),(w,())):=fun e w a =>
  aI (fn:=Tryz.f131) (hG _ _ rfl) (by kernel_rfl) (by kernel_rfl) a
 unfold IN
 by_cases h1:o.1=1
 ·rw[if_pos h1]
  refine⟨_,_,start _ _ ((GQ _ _ _).trans (ae (Dk h1) (aa (So hG (aD s) (bc o,([],(e0,0))) h.d.sv PJ.n) rfl))),?_⟩
  exact Ku s o
 rw[if_neg h1]
 by_cases h2:o.1=2
 ·rw[if_pos h2]
  refine⟨_,_,start _ _ ((GQ _ _ _).trans (af (we h1) (ae (Dk h2) (aa (ZQ hG (aD s) o h.d.sv PJ.n) rfl)))),?_⟩
  exact Kv h o
 rw[if_neg h2]
 by_cases KX:o.1=3
 ·rw[if_pos KX]
  obtain⟨e,w,a,b⟩:=h3 KX
  exact⟨e,w,start _ _ ((GQ _ _ _).trans (af (we h1) (af (we h2) (ae (Dk KX) (aa a rfl))))),b⟩
 rw[if_neg KX]
 by_cases Wn:o.1=4
 ·rw[if_pos Wn]
  obtain⟨e,w,a,b⟩:=aaa hG s o h PJ
  exact⟨e,w,start _ _ ((GQ _ _ _).trans (af (we h1) (af (we h2) (af (we KX) (ae (Dk Wn) (aa a rfl)))))),b⟩
 rw[if_neg Wn]
 by_cases Su:o.1=5
 ·rw[if_pos Su]
  obtain⟨e,w,a,b⟩:=aae hG s o h PJ hm Su
  exact⟨e,w,start _ _ ((GQ _ _ _).trans (af (we h1) (af (we h2) (af (we KX) (af (we Wn) (ae (Dk Su) (aa a rfl))))))),b⟩
 rw[if_neg Su]
 by_cases hk6:o.1=6
 ·rw[if_pos hk6]
  obtain⟨e,w,a,b⟩:=aak hG s o h PJ
  exact⟨e,w,start _ _ ((GQ _ _ _).trans (af (we h1) (af (we h2) (af (we KX) (af (we Wn) (af (we Su) (ae (Dk hk6) (aa a rfl)))))))),b⟩
 rw[if_neg hk6]
 refine⟨_,_,M8 hG (aD s) o (by omega) h.d.sv h.d.se PJ.n (by show s.1.2.length≤_;omega),?_⟩
 exact Kt s o
end Go.Vs
namespace Go.Vs
open Go.Proofs
variable {G:(f:FuncId)→(g:aK)→Option (g.A→Option g.B)}
def iI(G:(f:FuncId)→(g:aK)→Option (g.A→Option g.B))(o:bh):Prop:=∀s,fb s→cz o=0→o.1=3→∃(e:Int) (w:aB),FX G 154 nP ((o,()),(aD s,()))=some ((e,()),(w,()))∧iG e w=rB s o
theorem Na{s:StateT}{o:bh}(hm:cz o=0):IN s o=oK s o:=by rw[Kw,if_neg (by simp[hm])]
theorem aao(hG:HG G)(l:List bh)(hl:l.length≤1073741824)(hm:∀o∈l,cz o=0)(h3:∀o∈l,iI G o):∀(n i:Nat) (s:StateT),i+n=l.length→fb s →
  LX G 103 Ed Tryz.f103 yN (bY Tryz.prog 103 0) ((l,(((l.length:Nat):Int),((i:Int),()))),((zW,(aD s,())),()))=some (EY (l.drop i) s,()):=by
 intro n
 induction n with
 |zero =>
  intro i s hi hw
  refine aQ (j:=0) (by kernel_rfl) ((Mh _ _ _).trans ?_)
  refine af (decide_eq_false (show ¬((i:Int)<((l.length:Nat):Int)) by omega)) ?_
  rw[List.drop_eq_nil_of_le (by omega)];rfl
 |succ n ih =>
  intro i s hi hw
  have aG:i<l.length:=by omega
  have ho:=hm l[i] (List.getElem_mem aG)
  obtain⟨e,w,h1,h2⟩:=M9 hG s l[i] hw ho (h3 _ (List.getElem_mem aG) s hw ho)
  rw[Na ho]at h2
  refine aQ (j:=0) (by kernel_rfl) ((Mh _ _ _).trans ?_)
  refine ae (cg aG) (aa (bZ (List.getElem?_eq_getElem aG)) ?_)
  refine aa h1 ?_
  rw[List.drop_eq_getElem_cons aG,EY]
  have Ch:=hw.one l[i]
  by_cases he:e=0
  ·have e1:iG e w=(w7 w,(0,())):=if_neg (by simp[he])
   rw[e1]at h2
   rw[←h2]at Ch ⊢
   rw[if_neg (by simp)]
   refine af (show(e != 0)=false by simp[he]) ?_
   have:=ih (i+1) (w7 w) (by omega) Ch
   rw[←bz aG hl]at this
   exact this
  ·have e1:iG e w=(zS,(e,())):=if_pos he
   rw[e1]at h2
   rw[←h2,if_pos he]
   exact ae (show(e != 0)=true by simp[he]) rfl
theorem Sy(hG:HG G)(s:StateT)(l:List bh)(hw:fb s)(hl:l.length≤1073741824)(hm:∀o∈l,cz o=0)(h3:∀o∈l,iI G o):FX G 103 Ed ((s,l,()),())=some (EY l s,()):=by
 have hn:=hw.n
 refine aI (fn:=Tryz.f103) (hG _ _ rfl) (by kernel_rfl) (by kernel_rfl) ((Za _ _ _).trans ?_)
 refine aa (V7 hG s.1 hw.d.sm) ?_
 refine aa (Sn (hG _ _ rfl) s.2 (by omega)) ?_
 have:=aao hG l hl hm h3 l.length 0 s (by omega) hw
 rw[List.drop_zero]at this
 exact this
theorem Fe(l:List bh)(h:jO l=0):∀o∈l,cz o=0:=by
 induction l with
 |nil=>intro o ho;simp at ho
 |cons o r ih =>
  rw[jO]at h
  by_cases ho:cz o=0
  ·rw[if_neg (fun k=>k ho)]at h
   intro p hp
   rcases List.mem_cons.1 hp with e|hp
   ·rw[e];exact ho
   ·exact ih h p hp
  ·rw[if_pos ho]at h;exact absurd h ho
theorem Hk{l:List bh}(h:du l=0):∀o∈l,cz o=0:=by
 unfold du at h
 split at h
 ·exact Fe l h
 ·cases h
theorem aap(hG:HG G)(s:StateT)(l:List bh)(hw:fb s)(hl:l.length≤1073741824)(hf:∀o∈l,Fit o)(h3:∀o∈l,iI G o):FX G 63 Mb ((s,l,()),())=some (dC s l,()):=by
 refine aI (fn:=Tryz.f63) (hG _ _ rfl) (by kernel_rfl) (by kernel_rfl) ((Y7 _ _ _).trans ?_)
 refine aa (Wa hG l hl hf) ?_
 unfold dC
 by_cases hm:du l=0
 ·rw[if_neg (by simp[hm])]
  refine af (show(du l != 0)=false by simp[hm]) ?_
  exact aa (Sy hG s l hw hl (Hk hm) h3) rfl
 ·rw[if_pos hm]
  exact ae (show(du l != 0)=true by simp[hm]) rfl
theorem Wo(hG:HG G)(s:StateT)(l:List bh)(hw:fb s)(hl:l.length≤1073741824)(hf:∀o∈l,Fit o)(h3:∀o∈l,iI G o):FX G 102 Ec ((s,l,()),())=some ((ji s l,()),()):=by
 have hn:=hw.n
 refine aI (fn:=Tryz.f102) (hG _ _ rfl) (by kernel_rfl) (by kernel_rfl) ((Y8 _ _ _).trans ?_)
 refine aa (aap hG s l hw hl hf h3) ?_
 unfold ji
 by_cases he:(dC s l).2.1=0
 ·rw[if_neg (by simp[he])]
  exact af (show((dC s l).2.1 != 0)=false by simp[he]) rfl
 ·rw[if_pos he]
  refine ae (show((dC s l).2.1 != 0)=true by simp[he]) ?_
  refine aa (V7 hG s.1 hw.d.sm) ?_
  exact aa (Sn (hG _ _ rfl) s.2 (by omega)) rfl
end Go.Vs
