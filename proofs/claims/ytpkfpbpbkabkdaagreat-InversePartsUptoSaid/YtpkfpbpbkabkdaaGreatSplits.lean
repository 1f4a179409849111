/- Edges cut and split, vertices smoothed: what the program computes. -/
import Derived.Test.YtpkfpbpbkabkdaaGreatFormed
import Derived.Test.YtpkfpbpbkabkdaaGreatTop
set_option linter.unusedVariables false
set_option linter.unusedSimpArgs false
namespace Go.Vs
open Go.Proofs
variable {G:(f:FuncId)→(g:aN)→Option (g.A→Option g.B)}
theorem WE(hG:HG G)(v:aA)(x:ae):FX G 232 D4 ((v,x,()),())=some ((mg v.1 x,()),()):=by
 refine aw (fn:=Tryz.f232) (hG _ _ rfl) (by kernel_rfl) (by kernel_rfl) ((aaY _ _ _).trans ?_)
 exact aa (WA hG v.1 x) rfl
def dx(l:List aA)(x:ae):Nat:=l.countP fun v=>kB v.1 x
theorem FY(l:List aA)(x:ae):dx l x≤l.length:=List.countP_le_length
theorem xz{l:List aA}{x:ae}(h:∀v∈l,kB v.1 x=false):dx l x=0:=by
 unfold dx;rw[List.countP_eq_zero];intro v hv;simp[h v hv]
theorem El{x:ae}:∀{l:List aA},iU l→∀(k:Nat) (v:aA),l[k]? = some v→(kB v.1 x=true↔k<dx l x)
 |[],_,k,v,h=>by simp at h
 |w::r,hs,k,v,h=>by
  have hw:∀{u:aA},u∈r→kB w.1 u.1=true:=fun {u} hu=>List.rel_of_pairwise_cons hs hu
  have hr:iU r:=hs.of_cons
  by_cases aF:kB w.1 x=true
  ·have e:dx (w::r) x=dx r x+1:=by unfold dx;rw[List.countP_cons_of_pos (by simpa using aF)]
   cases k with
   |zero=>simp at h;subst h;simp[aF,e]
   |succ k=>have:=El (x:=x) hr k v (by simpa using h);rw[this,e];omega
  ·have hn:∀u∈w::r,kB u.1 x=false:=fun u hu=>by
    rcases List.mem_cons.1 hu with rfl|hu
    ·simpa using aF
    ·rw[Bool.eq_false_iff];intro h2;exact aF (fO (hw hu) h2)
   rw[xz hn,hn v (List.mem_of_getElem? h)]
   simp
theorem R9(hG:HG G)(l:List aA)(x:ae)(hs:iU l)(hl:l.length≤50000000):∀(n i j:Nat),j-i≤n→i≤dx l x→dx l x≤j→j≤l.length →
  LX G 233231 jv Tryz.f231 iE (aM Tryz.prog 231 0) ((l,(((l.length:Nat):Int),((i:Int),((j:Int),())))),(((x,()),()),()))=some (((((dx l x:Nat):Int),(decide ((l[dx l x]?).map (·.1)=some x),())):Int×(Bool×Unit)),()):=by
 have tG:=FY l x
 have fin:∀(i j:Nat),¬(i<j)→i≤dx l x→dx l x≤j→LX G 233231 jv Tryz.f231 iE (aM Tryz.prog 231 0) ((l,(((l.length:Nat):Int),((i:Int),((j:Int),())))),(((x,()),()),()))=some (((((dx l x:Nat):Int),(decide ((l[dx l x]?).map (·.1)=some x),())):Int×(Bool×Unit)),()):=fun i j zq h1 h2=>by
  have hi:i=dx l x:=by omega
  subst hi
  refine ao (j:=0) (by kernel_rfl) ((BV _ _ _).trans ?_)
  refine ag (decide_eq_false (show ¬(((dx l x:Nat):Int)<(j:Int)) by omega)) ?_
  by_cases hc:dx l x<l.length
  ·have hx:l[dx l x]? = some l[dx l x]:=List.getElem?_eq_getElem hc
   refine af (aX hc) ?_
   refine aa (ax hx) ?_
   refine aa (WE hG l[dx l x] x) ?_
   refine congrArg (fun b:Bool=>some ((((dx l x:Nat):Int),(b,())),())) ?_
   rw[hx]
   unfold mg
   by_cases he:l[dx l x].1=x
   ·simp[he]
   ·simp[he];split<;>simp
  ·refine ag (decide_eq_false (show ¬(((dx l x:Nat):Int)<((l.length:Nat):Int)) by omega)) ?_
   refine congrArg (fun b:Bool=>some ((((dx l x:Nat):Int),(b,())),())) ?_
   rw[List.getElem?_eq_none (by omega)];simp
 intro n
 induction n with
 |zero=>intro i j zq h1 h2 h3;exact fin i j (by omega) h1 h2
 |succ n ih =>
  intro i j zq h1 h2 h3
  by_cases aF:i<j
  case neg=>exact fin i j aF h1 h2
  refine ao (j:=0) (by kernel_rfl) ((BV _ _ _).trans ?_)
  refine af (decide_eq_true (show((i:Int)<(j:Int)) by omega)) ?_
  refine ag rfl ?_
  have hm:=Kw (i:=i) (j:=j) (by omega) (by omega)
  have hh:(i+j) / 2<l.length:=by omega
  have hx:l[(i+j) / 2]? = some l[(i+j) / 2]:=List.getElem?_eq_getElem hh
  have oi:=El (x:=x) hs ((i+j) / 2) _ hx
  refine aa (show aY l (IntKind.wrap .i64 (kY .u64 (IntKind.wrap .u64 (IntKind.wrap .i64 ((i:Int)+(j:Int)))) (1:Int)))=some l[(i+j) / 2] by rw[hm];exact ax hx) ?_
  refine aa (WE hG l[(i+j) / 2] x) ?_
  by_cases ho:kB l[(i+j) / 2].1 x=true
  ·refine af (decide_eq_true ((sB _ _).2 ho)) ?_
   have hc:=oi.1 ho
   have hw:IntKind.wrap .i64 (IntKind.wrap .i64 (kY .u64 (IntKind.wrap .u64 (IntKind.wrap .i64 ((i:Int)+(j:Int)))) (1:Int))+1)=(((i+j) / 2+1:Nat):Int):=by
    rw[hm];exact aE hh (by omega)
   have:=ih ((i+j) / 2+1) j (by omega) (by omega) h2 h3
   rw[←hw]at this
   exact this
  ·refine ag (decide_eq_false (fun h=>ho ((sB _ _).1 h))) ?_
   have hc:¬(i+j) / 2<dx l x:=fun h=>ho (oi.2 h)
   have:=ih i ((i+j) / 2) (by omega) h1 (by omega) (by omega)
   rw[←hm]at this
   exact this
theorem Sa(hG:HG G)(l:List aA)(x:ae)(hs:iU l)(hl:l.length≤50000000) :
  FX G 233231 jv ((l,x,()),())=some (((((dx l x:Nat):Int),(decide ((l[dx l x]?).map (·.1)=some x),())):Int×(Bool×Unit)),()):=by
 refine aw (fn:=Tryz.f231) (hG _ _ rfl) (by kernel_rfl) (by kernel_rfl) ((Rn _ _ _).trans ?_)
 exact R9 hG l x hs hl l.length 0 l.length (by omega) (by omega) (FY l x) (Nat.le_refl _)
theorem It(g:aA):∀{l:List aA},iU l→lj g l=if(l[dx l g.1]?).map (·.1)=some g.1 then l.set (dx l g.1) g else l.take (dx l g.1)++(g::l.drop (dx l g.1))
 |[],_=>rfl
 |w::r,hs=>by
  have hw:∀{u:aA},u∈r→kB w.1 u.1=true:=fun {u} hu=>List.rel_of_pairwise_cons hs hu
  have hr:iU r:=List.Pairwise.of_cons hs
  by_cases aF:kB w.1 g.1=true
  ·have e:dx (w::r) g.1=dx r g.1+1:=by unfold dx;rw[List.countP_cons_of_pos (by simpa using aF)]
   have br:w.1≠g.1:=fun k=>by rw[k,dN]at aF;cases aF
   have qS:¬mg g.1 w.1≤0:=fun k=>by
    rcases p4.1 k with k|k
    ·exact br k.symm
    ·have:=fO aF k;rw[dN]at this;cases this
   have ih:=It g hr
   rw[e,lj,if_neg qS,if_pos br,ih]
   simp only[List.getElem?_cons_succ,List.set_cons_succ,List.take_succ_cons,List.drop_succ_cons,List.cons_append]
   split<;>rfl
  ·have hn:∀u∈w::r,kB u.1 g.1=false:=fun u hu=>by
    rcases List.mem_cons.1 hu with rfl|hu
    ·simpa using aF
    ·rw[Bool.eq_false_iff];intro h2;exact aF (fO (hw hu) h2)
   rw[xz hn]
   by_cases he:w.1=g.1
   ·have X8:mg g.1 w.1≤0:=p4.2 (.inl he.symm)
    have h1:nH g (w::r)=r:=by
     have:nH g (w::r)=nH g r:=by unfold nH;rw[List.filter_cons_of_neg (by simp[he])]
     rw[this]
     exact sG (fun q hq k=>by have:=hw hq;rw[k,he,dN]at this;cases this)
    rw[lj,if_pos X8,h1,if_pos (by simp[he])];rfl
   ·have Jo:kB g.1 w.1=true:=xt (by simpa using aF) he
    have X8:mg g.1 w.1≤0:=p4.2 (.inr Jo)
    have h1:nH g (w::r)=w::r:=sG (fun q hq k=>by
     rcases List.mem_cons.1 hq with rfl|hq
     ·exact he k
     ·have:=fO Jo (hw hq);rw[k,dN]at this;cases this)
    rw[lj,if_pos X8,h1,if_neg (by simp[he])];rfl
theorem Em{x:ae}:∀{l:List aA},iU l→(gu l x).isSome=decide ((l[dx l x]?).map (·.1)=some x)
 |[],_=>rfl
 |w::r,hs=>by
  have hw:∀{u:aA},u∈r→kB w.1 u.1=true:=fun {u} hu=>List.rel_of_pairwise_cons hs hu
  have hr:iU r:=List.Pairwise.of_cons hs
  rw[p6]
  by_cases aF:kB w.1 x=true
  ·have e:dx (w::r) x=dx r x+1:=by unfold dx;rw[List.countP_cons_of_pos (by simpa using aF)]
   have br:w.1≠x:=fun k=>by rw[k,dN]at aF;cases aF
   rw[e,if_neg br,Em hr,List.getElem?_cons_succ]
  ·have hn:∀u∈w::r,kB u.1 x=false:=fun u hu=>by
    rcases List.mem_cons.1 hu with rfl|hu
    ·simpa using aF
    ·rw[Bool.eq_false_iff];intro h2;exact aF (fO (hw hu) h2)
   rw[xz hn]
   by_cases he:w.1=x
   ·simp[he]
   ·have Jo:kB x w.1=true:=xt (by simpa using aF) he
    have:gu r x=none:=by
     unfold gu
     have:(List.find? (fun q=>decide (q.1=x)) r)=none:=by
      rw[List.find?_eq_none];intro q hq k
      have k:q.1=x:=by simpa using k
      have:=fO Jo (hw hq);rw[k,dN]at this;cases this
     rw[this];rfl
    rw[if_neg he,this];simp[he]
theorem aca(hG:HG G)(l:List aA)(g:aA)(hs:iU l)(hl:l.length≤50000000):FX G 215 HE ((l,g,()),())=some ((bN l g,()),()):=by
 refine aw (fn:=Tryz.f215) (hG _ _ rfl) (by kernel_rfl) (by kernel_rfl) ((aaO _ _ _).trans ?_)
 refine aa (Sa hG l g.1 hs hl) ?_
 refine aa (X3 (hG _ _ rfl) l hl) ?_
 unfold bN
 rw[Em hs,It g hs]
 have hc:dx l g.1≤l.length:=FY l g.1
 by_cases h:(l[dx l g.1]?).map (·.1)=some g.1
 ·rw[decide_eq_true h,if_neg (fun k=>by cases k.1),if_pos h]
  refine af rfl ?_
  obtain⟨u,hu,_⟩:∃u,l[dx l g.1]? = some u∧u.1=g.1:=by
   cases hq:l[dx l g.1]? with
   |none=>rw[hq]at h;cases h
   |some u=>rw[hq]at h;exact⟨u,rfl,by simpa using h⟩
  have aF:=(List.getElem?_eq_some_iff.1 hu).1
  refine af (cY (fh _) (aX aF)) ?_
  exact aa hu rfl
 ·rw[decide_eq_false h,if_neg h]
  refine ag rfl ?_
  by_cases h4:400≤l.length
  ·rw[if_pos ⟨rfl,h4⟩]
   exact ag (decide_eq_false (show ¬((l.length:Nat):Int)<400 by omega)) rfl
  ·rw[if_neg (fun k=>h4 k.2)]
   refine af (decide_eq_true (show((l.length:Nat):Int)<400 by omega)) ?_
   have mw:qF l ((dx l g.1:Nat):Int) [g]=true:=by
    unfold qF
    rw[decide_eq_true (show(0:Int)≤((dx l g.1:Nat):Int) by omega),decide_eq_true (show((dx l g.1:Nat):Int)≤((l.length:Nat):Int) by omega)]
    rw[fits (by simp;omega)];rfl
   refine af mw ?_
   have e:fY l ((dx l g.1:Nat):Int) [g]=l.take (dx l g.1)++(g::l.drop (dx l g.1)):=by unfold fY;simp
   exact congrArg (fun r:List aA=>some ((r,()),())) e
theorem En(hG:HG G)(w:aV)(x to:ae)(hs:iU w.2.2.1)(hl:w.2.2.1.length≤50000000):FX G 183 Bl ((x,to,()),(w,()))=some ((),((w.1,(w.2.1,(bN w.2.2.1 (x,to),()))),())):=by
 refine aw (fn:=Tryz.f183) (hG _ _ rfl) (by kernel_rfl) (by kernel_rfl) ((aax _ _ _).trans ?_)
 exact aa (aca hG w.2.2.1 (x,to) hs hl) rfl
theorem Eo(hG:HG G)(w:aV)(x:ae)(hw:Rw w.1)(hl:w.1.length≤50000000)(hr:∀v∈w.1,v.2.1.length≤50000000){k:Nat}{v:ah}(hk:w.1[k]? = some v)(hx:x∈v.2.1) :
  FX G 185 lZ ((x,()),(w,()))=some (((some ((⟨0,by decide⟩:Fin 1),k)),()),(w,())):=by
 refine aw (fn:=Tryz.f185) (hG _ _ rfl) (by kernel_rfl) (by kernel_rfl) ((aaz _ _ _).trans ?_)
 have Pj:=(List.getElem?_eq_some_iff.1 hk).1
 have loop:∀(n i:Nat),i+n=k→LX G 185 lZ Tryz.f185 vn (aM Tryz.prog 185 0) ((((w.1.length:Nat):Int),((i:Int),())),((w,((x,()),())),()))=some (((some ((⟨0,by decide⟩:Fin 1),k)),()),(w,())):=by
  intro n
  induction n with
  |zero =>
   intro i hi
   have hi:i=k:=by omega
   subst hi
   refine ao (j:=0) (by kernel_rfl) ((LC _ _ _).trans ?_)
   refine af (aX Pj) (af (cY (fh _) (aX Pj)) (aa hk ?_))
   refine aa (Ee hG v.2.1 x (by have:=hr v (List.mem_of_getElem? hk);omega)) ?_
   exact af (decide_eq_true hx) rfl
  |succ n ih =>
   intro i hi
   have nE:i<w.1.length:=by omega
   have hu:w.1[i]? = some w.1[i]:=List.getElem?_eq_getElem nE
   have DS:x∉w.1[i].2.1:=fun hxi=>by
    have h1:w.1[i]=v:=hw.one (List.mem_of_getElem? hk) (List.getElem_mem nE) hx hxi
    have h2:=jX hw.s hk rfl
    have h3:=jX hw.s (x:=v.1) hu (by rw[h1])
    omega
   refine ao (j:=0) (by kernel_rfl) ((LC _ _ _).trans ?_)
   refine af (aX nE) (af (cY (fh _) (aX nE)) (aa hu ?_))
   refine aa (Ee hG w.1[i].2.1 x (by have:=hr _ (List.getElem_mem nE);omega)) ?_
   refine ag (decide_eq_false DS) ?_
   have:=ih (i+1) (by omega)
   rw[←aE nE (by omega)]at this
   exact this
 exact loop k 0 (by omega)
theorem KC{l:List ah}{k:Nat}{v:ah}(hs:bY l)(hk:l[k]? = some v)(r:List ae):l.set k (v.1,(r,v.2.2))=l.map (su v.1 r):=by
 have h:=kI hs (List.mem_of_getElem? hk)
 rw[jX hs hk rfl]
 refine(Im hs h (su v.1 r) (fun u=>(u.1,(r,u.2.2))) (fun u hu=>?_) (fun u hu=>?_)).symm
 ·unfold su;rw[if_pos hu]
 ·unfold su;rw[if_neg hu]
theorem rC{l:List ah}{x:ae}(h:x∈au l):∃(k:Nat) (v:ah),l[k]? = some v∧x∈v.2.1∧v∈l:=by
 obtain⟨v,hv,hx⟩:=bh.1 h
 obtain⟨k,hk,he⟩:=List.getElem_of_mem hv
 exact⟨k,v,by rw[List.getElem?_eq_getElem hk,he],hx,hv⟩
structure Sv(l:List ah):Prop where
 n:l.length≤50000000
 r:∀v∈l,v.2.1.length≤50000000
theorem Sb{n:Int}(h:n=0∨n=1):cU .xor .i64 n 1=IntKind.wrap .i64 (1-n):=by
 rcases h with rfl|rfl<;>decide
theorem Iu(hG:G 188 ov=none)(x:ae)(h:x.2=0∨x.2=1):FX G 188 ov ((x,()),())=some ((ar x,()),()):=by
 refine aw (fn:=Tryz.f188) hG (by kernel_rfl) (by kernel_rfl) ((aaC _ _ _).trans ?_)
 exact congrArg (fun n:Int=>some ((((x.1,n):ae),()),())) (Sb h)
theorem N5{d:aj}(h:Rw d.1){v:ah}{x:ae}(hv:v∈d.1)(hx:x∈v.2.1):dm d x=if(eO v.2.1 x).1=x.1 then(if(eO v.2.1 (eO v.2.1 x)).1=x.1 then zD else eO v.2.1 (eO v.2.1 x)) else eO v.2.1 x:=by
 unfold dm
 have e:aS d ((bM d x).getD zI)=v.2.1:=by
  unfold bM;rw[iG h hv hx];exact iS h.s hv
 simp only[e]
 by_cases h1:(eO v.2.1 x).1=x.1
 ·simp only[if_pos h1]
 ·simp only[if_neg h1]
theorem WG(hG:HG G)(w:aV)(x:ae)(hw:Rw w.1)(hs:Sv w.1)(hx:x∈au w.1)(e:List ai):FX G 184 Bm ((x,()),(w,()))=some ((dm (w.1,e) x,()),(w,())):=by
 obtain⟨k,v,hk,jI,hv⟩:=rC hx
 have OR:=hs.r v hv
 refine aw (fn:=Tryz.f184) (hG _ _ rfl) (by kernel_rfl) (by kernel_rfl) ((aay _ _ _).trans ?_)
 rw[N5 (d:=(w.1,e)) hw hv jI]
 have prev:∀y:ae,FX G 140 Bp ((v.2.1,y,()),())=some (((eO v.2.1 y),((yI (cz v.2.1 y (v.2.1.length-1))).2)),()):=fun y=>by
  refine(WD hG v.2.1 y (by omega)).trans ?_
  have:(yI (cz v.2.1 y (v.2.1.length-1))).1=eO v.2.1 y:=vJ _
  rw[←this]
 have cJ:∀y:ae,((y.1.1==x.1.1)&&(y.1.2==x.1.2))=decide (y.1=x.1):=fun y=>jc y.1 x.1
 refine ao (j:=0) (by kernel_rfl) ((Fu _ _ _).trans ?_)
 refine af rfl (aa (Eo hG w x hw hs.n hs.r hk jI) ?_)
 refine tn rfl (af rfl (aa hk ?_))
 refine aa (prev x) ?_
 by_cases h1:(eO v.2.1 x).1=x.1
 ·rw[if_pos h1]
  refine aQ ((cJ _).trans (decide_eq_true h1)) ?_
  refine ao (j:=0) (by kernel_rfl) ((Fu _ _ _).trans ?_)
  refine af rfl (aa (Eo hG w x hw hs.n hs.r hk jI) ?_)
  refine tn rfl (af rfl (aa hk ?_))
  refine aa (prev (eO v.2.1 x)) ?_
  by_cases h2:(eO v.2.1 (eO v.2.1 x)).1=x.1
  ·rw[if_pos h2]
   refine aQ ((cJ _).trans (decide_eq_true h2)) ?_
   refine ao (j:=0) (by kernel_rfl) ((Fu _ _ _).trans ?_)
   exact ag rfl rfl
  ·rw[if_neg h2]
   exact aQ ((cJ _).trans (decide_eq_false h2)) rfl
 ·rw[if_neg h1]
  exact aQ ((cJ _).trans (decide_eq_false h1)) rfl
theorem Ix{l:List ai}{x:ID}(hs:dk l)(h:(aT l x).isSome=true)(hl:l.length≤50000000) :
  jC l ((b5 l x:Nat):Int) (IntKind.wrap .i64 (((b5 l x:Nat):Int)+1))=true∧du l ((b5 l x:Nat):Int) (IntKind.wrap .i64 (((b5 l x:Nat):Int)+1))=c6 l x:=by
 obtain⟨e,he⟩:=Option.isSome_iff_exists.1 h
 have aF:=(List.getElem?_eq_some_iff.1 (mo hs he)).1
 have hw:IntKind.wrap .i64 (((b5 l x:Nat):Int)+1)=((b5 l x+1:Nat):Int):=aE aF (by omega)
 constructor
 ·rw[hw]
  unfold jC
  rw[decide_eq_true (show(0:Int)≤((b5 l x:Nat):Int) by omega),decide_eq_true (show((b5 l x:Nat):Int)<((b5 l x+1:Nat):Int) by omega),decide_eq_true (show((b5 l x+1:Nat):Int)≤((l.length:Nat):Int) by omega),fits (by omega)];rfl
 ·rw[hw,xp hs h]
  unfold du;simp only[Int.toNat_natCast]
theorem Sc{l:List ah}{x:ID}(hs:bY l)(h:(ba l x).isSome=true)(hl:l.length≤50000000) :
  jC l ((bG l x:Nat):Int) (IntKind.wrap .i64 (((bG l x:Nat):Int)+1))=true∧du l ((bG l x:Nat):Int) (IntKind.wrap .i64 (((bG l x:Nat):Int)+1))=dA l x:=by
 obtain⟨e,he⟩:=Option.isSome_iff_exists.1 h
 have aF:=(List.getElem?_eq_some_iff.1 (dg hs he)).1
 have hw:IntKind.wrap .i64 (((bG l x:Nat):Int)+1)=((bG l x+1:Nat):Int):=aE aF (by omega)
 constructor
 ·rw[hw]
  unfold jC
  rw[decide_eq_true (show(0:Int)≤((bG l x:Nat):Int) by omega),decide_eq_true (show((bG l x:Nat):Int)<((bG l x+1:Nat):Int) by omega),decide_eq_true (show((bG l x+1:Nat):Int)≤((l.length:Nat):Int) by omega),fits (by omega)];rfl
 ·rw[hw,xl hs h]
  unfold du;simp only[Int.toNat_natCast]
theorem Sv.re{l:List ah}(h:Sv l)(x:ID){r:List ae}(hr:r.length≤50000000):Sv (l.map (su x r)):=by
 refine⟨by simp;exact h.n,fun w hw=>?_⟩
 obtain⟨u,hu,rfl⟩:=List.mem_map.1 hw
 unfold su
 split
 ·exact hr
 ·exact h.r u hu
theorem Ck{row:List ae}(d:ae):(cC row d).length≤row.length:=by
 unfold cC;rw[gr];exact List.length_filter_le _ _
theorem Mc{w:aV}{x:ae}(hw:Rw w.1){k:Nat}{v:ah}(hk:w.1[k]? = some v)(hx:x∈v.2.1)(e:List ai):w.1.set k (v.1,(cC v.2.1 x,v.2.2))=(aG (w.1,e) x).1:=by
 rw[j0 (d:=(w.1,e)) hw (List.mem_of_getElem? hk) hx]
 exact KC hw.s hk _
theorem ahg(hG:HG G)(s:StateT)(o:aZ)(h:fH s)(hs:Sv s.1.1) :
  ∃(e:Int) (w:aV),FX G 155 Bh ((o,()),(aL s,()))=some ((e,()),(w,()))∧gE e w=Dm s o:=by
 have br:=h.d.ne
 unfold Dm
 cases hf:(aT s.1.2 (aK o)).isSome with
 |false =>
  refine⟨13,aL s,?_,?_⟩
  ·refine aw (fn:=Tryz.f155) (hG _ _ rfl) (by kernel_rfl) (by kernel_rfl) ((aai _ _ _).trans ?_)
   refine aa (oJ hG (aL s) (aK o) h.d.se (by show s.1.2.length≤_;omega)) ?_
   exact aQ ((dn (l:=s.1.2) h.d.se).trans hf) rfl
  ·rw[if_pos (show(cJ s.1 (aK o)).isSome=false from hf)];rfl
 |true =>
  rw[if_neg (show ¬(cJ s.1 (aK o)).isSome=false by show ¬(aT s.1.2 (aK o)).isSome=false;rw[hf];simp)]
  obtain⟨x,hx⟩:∃x:ae,x=(aK o,0):=⟨_,rfl⟩
  obtain⟨y,hy⟩:∃y:ae,y=(aK o,1):=⟨_,rfl⟩
  have hxd:x∈au s.1.1:=by rw[hx];exact h.d.kR hf (.inl rfl)
  have hyd:y∈au s.1.1:=by rw[hy];exact h.d.kR hf (.inr rfl)
  have g1:=j5 h.g h.n (x,dm s.1 x)
  have hn:=h.n
  obtain⟨p1,q1⟩:=fz h.d.rw hxd
  have ahi:y∈au (aG s.1 x).1:=by
   rcases List.mem_cons.1 (p1.mem_iff.1 hyd) with k|k
   ·rw[hx,hy]at k;cases k
   ·exact k
  have OZ:=j4 (j4 h.d.gv x) y
  refine⟨0,((aG (aG s.1 x) y).1,(c6 s.1.2 (aK o),(bN (bN s.2 (x,dm s.1 x)) (y,dm s.1 y),()))),?_,?_⟩
  ·refine aw (fn:=Tryz.f155) (hG _ _ rfl) (by kernel_rfl) (by kernel_rfl) ((aai _ _ _).trans ?_)
   refine aa (oJ hG (aL s) (aK o) h.d.se (by show s.1.2.length≤_;omega)) ?_
   refine aQ ((dn (l:=s.1.2) h.d.se).trans hf) (ag rfl ?_)
   have ahj:FX G 179 Bi ((aK o,()),())=some ((x,y,()),()):=by
    rw[hx,hy];exact aw (fn:=Tryz.f179) (hG _ _ rfl) (by kernel_rfl) (by kernel_rfl) (Wj _ _ _)
   refine aa ahj ?_
   refine ao (j:=0) (by kernel_rfl) ((Kj _ _ _).trans ?_)
   refine af rfl (af rfl (aa (a:=x) rfl ?_))
   refine aa (WG hG (aL s) x h.d.rw hs hxd s.1.2) ?_
   refine aa (En hG (aL s) x (dm s.1 x) h.g (by show s.2.length≤_;omega)) ?_
   refine ao (j:=0) (by kernel_rfl) ((Kj _ _ _).trans ?_)
   refine af rfl (af rfl (aa (a:=y) rfl ?_))
   refine aa (WG hG (s.1.1,(s.1.2,(bN s.2 (x,dm s.1 x),()))) y h.d.rw hs hyd s.1.2) ?_
   refine aa (En hG (s.1.1,(s.1.2,(bN s.2 (x,dm s.1 x),()))) y (dm s.1 y) g1.1 (by have:=g1.2;show(bN s.2 (x,dm s.1 x)).length≤_;omega)) ?_
   refine ao (j:=0) (by kernel_rfl) ((Kj _ _ _).trans ?_)
   refine ag rfl ?_
   generalize bN (bN s.2 (x,dm s.1 x)) (y,dm s.1 y)=gg
   obtain⟨k,v,hk,jI,hv⟩:=rC hxd
   refine ao (j:=1) (by kernel_rfl) ((Kk _ _ _).trans ?_)
   refine af rfl (af rfl (aa (a:=x) rfl ?_))
   refine aa (Eo hG (s.1.1,(s.1.2,(gg,()))) x h.d.rw hs.n hs.r hk jI) ?_
   refine tn rfl (af rfl (aa hk ?_))
   refine aa (R5 hG v.2.1 x (h.d.rw.ring hv) (hs.r v hv)) ?_
   refine aa hk ?_
   have e1:s.1.1.set k (v.1,(cC v.2.1 x,v.2.2))=(aG s.1 x).1:=Mc (w:=(s.1.1,(s.1.2,(gg,())))) h.d.rw hk jI s.1.2
   have Fa:Sv (aG s.1 x).1:=by
    rw[j0 h.d.rw hv jI]
    exact hs.re _ (Nat.le_trans (Ck x) (hs.r v hv))
   obtain⟨k2,v2,oT,TO,xV⟩:=rC ahi
   have e2:(aG s.1 x).1.set k2 (v2.1,(cC v2.2.1 y,v2.2.2))=(aG (aG s.1 x) y).1:=Mc (w:=((aG s.1 x).1,(s.1.2,(gg,())))) q1 oT TO (aG s.1 x).2
   have rest:∀a:List ah,a=(aG s.1 x).1→LX G 155 Bh Tryz.f155 w8 (aM Tryz.prog 155 1) ((((b5 s.1.2 (aK o):Nat):Int),((2:Int),((1:Int),()))),(((a,(s.1.2,(gg,()))),()),([x,y],())))=some (((0:Int),()),(((aG (aG s.1 x) y).1,(c6 s.1.2 (aK o),(gg,()))),())):=by
    intro a ha
    subst ha
    refine ao (j:=1) (by kernel_rfl) ((Kk _ _ _).trans ?_)
    refine af rfl (af rfl (aa (a:=y) rfl ?_))
    refine aa (Eo hG ((aG s.1 x).1,(s.1.2,(gg,()))) y q1 Fa.n Fa.r oT TO) ?_
    refine tn rfl (af rfl (aa oT ?_))
    refine aa (R5 hG v2.2.1 y (q1.ring xV) (Fa.r v2 xV)) ?_
    refine aa oT ?_
    have last:∀b:List ah,b=(aG (aG s.1 x) y).1→LX G 155 Bh Tryz.f155 w8 (aM Tryz.prog 155 1) ((((b5 s.1.2 (aK o):Nat):Int),((2:Int),((2:Int),()))),(((b,(s.1.2,(gg,()))),()),([x,y],())))=some (((0:Int),()),(((aG (aG s.1 x) y).1,(c6 s.1.2 (aK o),(gg,()))),())):=by
     intro b hb
     subst hb
     refine ao (j:=1) (by kernel_rfl) ((Kk _ _ _).trans ?_)
     obtain⟨d1,d2⟩:=Ix h.d.se hf (by omega)
     refine ag rfl (af d1 ?_)
     exact congrArg (fun l:List ai=>some (((0:Int),()),(((aG (aG s.1 x) y).1,(l,(gg,()))),()))) d2
    exact last _ e2
   exact rest _ e1
  ·rw[←hx,←hy]
   unfold bf
   rw[vP OZ]
   rfl
end Go.Vs
namespace Go.Vs
open Go.Proofs
variable {G:(f:FuncId)→(g:aN)→Option (g.A→Option g.B)}
theorem KD{n:Int}(h0:0≤n)(h3:n≤3):cU .xor .i64 1 (cU .and .i64 n 1)=IntKind.wrap .i64 (1-Int.tmod n 2)∧kY .i64 n 1=IntKind.wrap .i64 (Int.tdiv n 2):=by
 have:n=0∨n=1∨n=2∨n=3:=by omega
 rcases this with rfl|rfl|rfl|rfl<;>exact⟨by decide,by decide⟩
theorem Iy{l:List ah}{x:ae}(hw:Rw l){k:Nat}{v:ah}(hk:l[k]? = some v)(hx:x∈v.2.1)(y:ae)(e:List ai):l.set k (v.1,(jF v.2.1 x y,v.2.2))=(aH (l,e) x y).1:=by
 rw[Cf (d:=(l,e)) hw y (List.mem_of_getElem? hk) hx]
 exact KC hw.s hk _
theorem ahk(hG:HG G)(s:StateT)(o:aZ)(h:fH s)(hs:Sv s.1.1)(hm:bz o=0)(X9:o.1=5) :
    ∃(e:Int) (w:aV),FX G 156 zh ((o,()),(aL s,()))=some ((e,()),(w,()))∧gE e w=ml s o:=by
  have br:=h.d.ne;have TY:=h.d.nv
  obtain⟨m1,m2,m3,m4⟩:=xx hm X9
  obtain⟨s1,s2⟩:=Is m3 m4
  obtain⟨c1,c2⟩:=KD m3 m4
  have key:∀(e:Int) (w:aV),FX G 156 zh ((o,()),(aL s,()))=some ((e,()),(w,()))→gE e w=ml s o→∃(e:Int) (w:aV),FX G 156 zh ((o,()),(aL s,()))=some ((e,()),(w,()))∧gE e w=ml s o:=fun e w a b=>⟨e,w,a,b⟩
  have start:∀(e:Int) (w:aV),bU 156 zh Tryz.f156 (FX G) (LX G 156 zh Tryz.f156) ((o,()),(aL s,()))=some ((e,()),(w,()))→FX G 156 zh ((o,()),(aL s,()))=some ((e,()),(w,())):=fun e w a =>
    aw (fn:=Tryz.f156) (hG _ _ rfl) (by kernel_rfl) (by kernel_rfl) a
  unfold ml
  cases hf:(aT s.1.2 (aK o)).isSome with
  |false =>
    refine⟨13,aL s,start _ _ ((Ut _ _ _).trans ?_),?_⟩
    · refine aa (oJ hG (aL s) (aK o) h.d.se (by show s.1.2.length≤_;omega)) ?_
      refine aa (qm hG (aL s) (dM o) h.d.sv (by show s.1.1.length≤_;omega)) ?_
      refine aa (oJ hG (aL s) (av o) h.d.se (by show s.1.2.length≤_;omega)) ?_
      exact aQ ((dn (l:=s.1.2) h.d.se).trans hf) rfl
    · rw[if_pos (show(cJ s.1 (aK o)).isSome=false from hf)];rfl
  |true =>
  rw[if_neg (show ¬(cJ s.1 (aK o)).isSome=false by show ¬(aT s.1.2 (aK o)).isSome=false;rw[hf];simp)]
  cases Uf:(ba s.1.1 (dM o)).isSome with
  |true =>
    refine⟨12,aL s,start _ _ ((Ut _ _ _).trans ?_),?_⟩
    · refine aa (oJ hG (aL s) (aK o) h.d.se (by show s.1.2.length≤_;omega)) ?_
      refine aa (qm hG (aL s) (dM o) h.d.sv (by show s.1.1.length≤_;omega)) ?_
      refine aa (oJ hG (aL s) (av o) h.d.se (by show s.1.2.length≤_;omega)) ?_
      refine aQ ((dn (l:=s.1.2) h.d.se).trans hf) (ag rfl ?_)
      exact af ((fN (l:=s.1.1) h.d.sv).trans Uf) rfl
    · rw[if_pos (show(aR s.1 (dM o)).isSome=true from Uf)];rfl
  |false =>
  rw[if_neg (show ¬(aR s.1 (dM o)).isSome=true by show ¬(ba s.1.1 (dM o)).isSome=true;rw[Uf];simp)]
  cases Uy:(aT s.1.2 (av o)).isSome with
  |true =>
    refine⟨12,aL s,start _ _ ((Ut _ _ _).trans ?_),?_⟩
    · refine aa (oJ hG (aL s) (aK o) h.d.se (by show s.1.2.length≤_;omega)) ?_
      refine aa (qm hG (aL s) (dM o) h.d.sv (by show s.1.1.length≤_;omega)) ?_
      refine aa (oJ hG (aL s) (av o) h.d.se (by show s.1.2.length≤_;omega)) ?_
      refine aQ ((dn (l:=s.1.2) h.d.se).trans hf) (ag rfl ?_)
      refine ag ((fN (l:=s.1.1) h.d.sv).trans Uf) ?_
      exact af ((dn (l:=s.1.2) h.d.se).trans Uy) rfl
    · rw[if_pos (show(cJ s.1 (av o)).isSome=true from Uy)];rfl
  |false =>
  rw[if_neg (show ¬(cJ s.1 (av o)).isSome=true by show ¬(aT s.1.2 (av o)).isSome=true;rw[Uy];simp)]
  have ahl:ba s.1.1 (dM o)=none:=by simpa using Uf
  have ahm:aT s.1.2 (av o)=none:=by simpa using Uy
  obtain⟨m,OO⟩:∃m:ae,m=Jq o:=⟨_,rfl⟩
  obtain⟨kk,T4⟩:∃m:ae,m=Gj o:=⟨_,rfl⟩
  have hmd:m∈au s.1.1:=by rw[OO];exact h.d.kR hf s1
  have Jn:ar kk∉au s.1.1:=by rw[T4];exact h.d.zZ ahm _
  obtain⟨p1,q1⟩:=pZ h.d.rw hmd Jn
  have oT:kk.2=0∨kk.2=1:=by rw[T4];exact s2
  obtain⟨k,v,hk,jI,hv⟩:=rC hmd
  have e1:s.1.1.set k (v.1,(jF v.2.1 m (ar kk),v.2.2))=(aH s.1 m (ar kk)).1:=Iy h.d.rw hk jI _ s.1.2
  have hlen:(aH s.1 m (ar kk)).1.length=s.1.1.length:=by unfold aH;exact fB _ _ _
  have UW:ba (aH s.1 m (ar kk)).1 (dM o)=none:=by
    unfold aH Vs.cf
    rw[oI (ry _ _),ahl];rfl
  have eM:((aK o,cU .xor .i64 1 (cU .and .i64 (oN o) 1)):ae)=m:=by rw[OO,c1];rfl
  have eK:((av o,kY .i64 (oN o) 1):ae)=kk:=by rw[T4,c2];rfl
  have go:∀(e:Int) (w:aV),(∀a:List ah,a=(aH s.1 m (ar kk)).1→((FX G 152 Hv (((dM o,(cw [m,kk],(e0,(0:Int)))),()),((a,(s.1.2,(s.2,()))),()))).bind fun(mE:((Int×Unit)×(aV×Unit))) =>
       cond (mE.1.1 != (0:Int))
        (some (mE.1,((mE.2.1.1,(mE.2.1.2.1,mE.2.1.2.2)),())))
        ((FX G 178 yx ((av o,()),((mE.2.1.1,(mE.2.1.2.1,mE.2.1.2.2)),()))).bind fun(qk:((Int×Unit)×(aV×Unit))) =>
        some (qk.1,((qk.2.1.1,(qk.2.1.2.1,qk.2.1.2.2)),()))))=some ((e,()),(w,())))→FX G 156 zh ((o,()),(aL s,()))=some ((e,()),(w,())):=fun e w rest=>by
    refine start _ _ ((Ut _ _ _).trans ?_)
    refine aa (oJ hG (aL s) (aK o) h.d.se (by show s.1.2.length≤_;omega)) ?_
    refine aa (qm hG (aL s) (dM o) h.d.sv (by show s.1.1.length≤_;omega)) ?_
    refine aa (oJ hG (aL s) (av o) h.d.se (by show s.1.2.length≤_;omega)) ?_
    refine aQ ((dn (l:=s.1.2) h.d.se).trans hf) (ag rfl ?_)
    refine ag ((fN (l:=s.1.1) h.d.sv).trans Uf) ?_
    refine ag ((dn (l:=s.1.2) h.d.se).trans Uy) ?_
    refine ag rfl ?_
    have body:∀mm k2:ae,mm=m→k2=kk→((FX G 185 lZ ((mm,()),(aL s,()))).bind fun(y4:(((Option ((Fin 1)×Nat))×Unit)×(aV×Unit))) =>
      qE y4.1.1
       (none) fun(p5:((Fin 1)×Nat)) =>
      cond (p5.1.val==0)
       (((y4.2.1.1)[p5.2]?).bind fun(y6:ah) =>
       (FX G 188 ov ((k2,()),())).bind fun(y7:((ae×Unit)×Unit)) =>
       (FX G 187 tf ((y6.2.1,(mm,((y7.1.1.1,y7.1.1.2),()))),())).bind fun(y8:(((List ae)×Unit)×Unit)) =>
       ((y4.2.1.1)[p5.2]?).bind fun(y9:ah) =>
       (FX G 169 rh (([mm,k2],()),())).bind fun(oU:(((List ae)×Unit)×Unit)) =>
       (FX G 152 Hv (((dM o,(oU.1.1,((⟨#[]⟩:ByteArray),(0:Int)))),()),(((List.set y4.2.1.1 p5.2 (y9.1,(y8.1.1,y9.2.2))),(y4.2.1.2.1,y4.2.1.2.2)),()))).bind fun(mE:((Int×Unit)×(aV×Unit))) =>
       cond (mE.1.1 != (0:Int))
        (some (mE.1,((mE.2.1.1,(mE.2.1.2.1,mE.2.1.2.2)),())))
        ((FX G 178 yx ((av o,()),((mE.2.1.1,(mE.2.1.2.1,mE.2.1.2.2)),()))).bind fun(qk:((Int×Unit)×(aV×Unit))) =>
        some (qk.1,((qk.2.1.1,(qk.2.1.2.1,qk.2.1.2.2)),()))))
       (none))=some ((e,()),(w,())):=by
      intro mm k2 ahn aho
      subst ahn aho
      refine aa (Eo hG (aL s) mm h.d.rw hs.n hs.r hk jI) ?_
      refine tn rfl (af rfl (aa hk ?_))
      refine aa (Iu (hG _ _ rfl) k2 oT) ?_
      refine aa (WC hG v.2.1 mm (ar k2) (hs.r v hv)) ?_
      refine aa hk ?_
      refine aa (Ef hG [mm,k2] (by simp)) ?_
      exact rest _ e1
    exact body _ _ eM eK
  have ahp:24≤s.1.1.length→qn ((aH s.1 m (ar kk)).1,(s.1.2,(s.2,()))) (dM o,(cw [m,kk],(e0,0)))=(3,((aH s.1 m (ar kk)).1,(s.1.2,(s.2,())))):=fun hb=>by
    unfold qn
    rw[if_neg (by rw[show ba ((aH s.1 m (ar kk)).1,(s.1.2,(s.2,()))).1 ((dM o,(cw [m,kk],(e0,0))):ah).1=none from UW];simp)]
    rw[if_pos (by show 24≤(aH s.1 m (ar kk)).1.length;omega)]
  have Ya:¬24≤s.1.1.length→qn ((aH s.1 m (ar kk)).1,(s.1.2,(s.2,()))) (dM o,(cw [m,kk],(e0,0)))=(0,(eI (dM o,(cw [m,kk],(e0,0))) (aH s.1 m (ar kk)).1,(s.1.2,(s.2,())))):=fun hb=>by
    unfold qn
    rw[if_neg (by rw[show ba ((aH s.1 m (ar kk)).1,(s.1.2,(s.2,()))).1 ((dM o,(cw [m,kk],(e0,0))):ah).1=none from UW];simp)]
    rw[if_neg (by show ¬24≤(aH s.1 m (ar kk)).1.length;omega)]
  by_cases hb:24≤s.1.1.length
  · refine⟨3,((aH s.1 m (ar kk)).1,(s.1.2,(s.2,()))),go _ _ (fun a ha=>?_),?_⟩
    · subst ha
      refine aa (X4 hG ((aH s.1 m (ar kk)).1,(s.1.2,(s.2,()))) (dM o,(cw [m,kk],(e0,0))) q1.s (by show(aH s.1 m (ar kk)).1.length≤_;omega)) ?_
      rw[ahp hb]
      exact af rfl rfl
    · rw[if_pos hb];rfl
  rw[if_neg hb]
  have hE:tp (eI (dM o,(cw [m,kk],(e0,0))) (aH s.1 m (ar kk)).1,(s.1.2,(s.2,()))) (av o)=if 40≤s.1.2.length then(3,(eI (dM o,(cw [m,kk],(e0,0))) (aH s.1 m (ar kk)).1,(s.1.2,(s.2,())))) else(0,(eI (dM o,(cw [m,kk],(e0,0))) (aH s.1 m (ar kk)).1,(dw (av o,(e0,0)) s.1.2,(s.2,())))):=by
    unfold tp
    rw[if_neg (by show ¬(aT s.1.2 (av o)).isSome=true;rw[Uy];simp)]
  have fin:FX G 156 zh ((o,()),(aL s,()))=some (((tp (eI (dM o,(cw [m,kk],(e0,0))) (aH s.1 m (ar kk)).1,(s.1.2,(s.2,()))) (av o)).1,()),((tp (eI (dM o,(cw [m,kk],(e0,0))) (aH s.1 m (ar kk)).1,(s.1.2,(s.2,()))) (av o)).2,())):=by
    refine go _ _ (fun a ha=>?_)
    subst ha
    refine aa (X4 hG ((aH s.1 m (ar kk)).1,(s.1.2,(s.2,()))) (dM o,(cw [m,kk],(e0,0))) q1.s (by show(aH s.1 m (ar kk)).1.length≤_;omega)) ?_
    rw[Ya hb]
    refine ag rfl ?_
    exact aa (Wz hG (eI (dM o,(cw [m,kk],(e0,0))) (aH s.1 m (ar kk)).1,(s.1.2,(s.2,()))) (av o) h.d.se (by show s.1.2.length≤_;omega)) rfl
  rw[hE]at fin
  by_cases hb4:40≤s.1.2.length
  · rw[if_pos hb4]at fin ⊢
    exact⟨_,_,fin,rfl⟩
  · rw[if_neg hb4]at fin ⊢
    refine⟨_,_,fin,?_⟩
    rw[OO,T4];rfl
theorem ahq(hG:HG G)(s:StateT)(o:aZ)(h:fH s)(hs:Sv s.1.1) :
    ∃(e:Int) (w:aV),FX G 157 rf ((o,()),(aL s,()))=some ((e,()),(w,()))∧gE e w=kc s o:=by
  have br:=h.d.ne;have TY:=h.d.nv;have hgn:=h.n
  have start:∀(e:Int) (w:aV),bU 157 rf Tryz.f157 (FX G) (LX G 157 rf Tryz.f157) ((o,()),(aL s,()))=some ((e,()),(w,()))→FX G 157 rf ((o,()),(aL s,()))=some ((e,()),(w,())):=fun e w a =>
    aw (fn:=Tryz.f157) (hG _ _ rfl) (by kernel_rfl) (by kernel_rfl) a
  unfold kc
  cases hf:ba s.1.1 (aK o) with
  |none =>
    refine⟨13,aL s,start _ _ ((aaj _ _ _).trans ?_),?_⟩
    · refine aa (qm hG (aL s) (aK o) h.d.sv (by show s.1.1.length≤_;omega)) ?_
      exact aQ ((fN (l:=s.1.1) h.d.sv).trans (by rw[hf])) rfl
    · rw[show aR s.1 (aK o)=none from hf];rfl
  |some v =>
  have hfs:(ba s.1.1 (aK o)).isSome=true:=by rw[hf];rfl
  have hv:=gN hf
  have hvi:=kH hf
  have ns:=dg h.d.sv hf
  have aF:=(List.getElem?_eq_some_iff.1 ns).1
  have hgr:=h.d.rw
  have go:∀(e:Int) (w:aV),(cond ((((List.length v.2.1):Nat):Int) != (2:Int)) (some (((14:Int),()),(aL s,()))) _=some ((e,()),(w,())))→FX G 157 rf ((o,()),(aL s,()))=some ((e,()),(w,())):=fun e w rest=>by
    refine start _ _ ((aaj _ _ _).trans ?_)
    refine aa (qm hG (aL s) (aK o) h.d.sv (by show s.1.1.length≤_;omega)) ?_
    refine aQ ((fN (l:=s.1.1) h.d.sv).trans hfs) (ag rfl ?_)
    refine af (cY (fh _) (aX aF)) (aa ns ?_)
    exact rest
  rw[show aR s.1 (aK o)=some v from hf]
  by_cases wy:v.2.1.length=2
  case neg =>
    refine⟨14,aL s,go _ _ (af (by rw[bne_iff_ne];omega) rfl),?_⟩
    show gE 14 (aL s)=(match v.2.1 with | [r0,r1]=>jz s o r0 r1|_=>(zS,(14,())))
    split
    · rename_i hr;rw[hr]at wy;exact absurd rfl wy
    · rfl
  obtain⟨r0,r1,hr⟩:∃r0 r1,v.2.1=[r0,r1]:=by
    match hq:v.2.1,wy with
    |[a,b],_=>exact⟨a,b,rfl⟩
  have DZ:(((List.length v.2.1:Nat):Int) != (2:Int))=false:=by rw[wy];rfl
  have g0:aY v.2.1 (0:Int)=some r0:=by rw[hr];rfl
  have g1:aY v.2.1 (1:Int)=some r1:=by rw[hr];rfl
  show ∃(e:Int) (w:aV),FX G 157 rf ((o,()),(aL s,()))=some ((e,()),(w,()))∧gE e w=(match v.2.1 with | [r0,r1]=>jz s o r0 r1|_=>(zS,(14,())))
  rw[hr]
  show ∃(e:Int) (w:aV),FX G 157 rf ((o,()),(aL s,()))=some ((e,()),(w,()))∧gE e w=jz s o r0 r1
  unfold jz
  by_cases Y8:r0.1=r1.1
  · refine⟨14,aL s,go _ _ (ag DZ (aa g0 (aa g1 (af ((jc r0.1 r1.1).trans (decide_eq_true Y8)) rfl)))),?_⟩
    rw[if_pos Y8];rfl
  rw[if_neg Y8]
  have b01:=(jc r0.1 r1.1).trans (decide_eq_false Y8)
  have tail:∀a b:ae,v.2.1.Perm [a,b]→a.1≠b.1→((FX G 188 ov ((b,()),())).bind fun(y7:((ae×Unit)×Unit)) =>
        cond (jC s.1.1 ((bG s.1.1 (aK o):Nat):Int) (IntKind.wrap .i64 (((bG s.1.1 (aK o):Nat):Int)+(1:Int))))
         ((FX G 185 lZ (((y7.1.1.1,y7.1.1.2),()),(((du s.1.1 ((bG s.1.1 (aK o):Nat):Int) (IntKind.wrap .i64 (((bG s.1.1 (aK o):Nat):Int)+(1:Int)))),(s.1.2,(s.2,()))),()))).bind fun(y8:(((Option ((Fin 1)×Nat))×Unit)×(aV×Unit))) =>
         qE y8.1.1
          (none) fun(p9:((Fin 1)×Nat)) =>
         cond (p9.1.val==0)
          (((y8.2.1.1)[p9.2]?).bind fun(oU:ah) =>
          (FX G 187 tf ((oU.2.1,((y7.1.1.1,y7.1.1.2),(a,()))),())).bind fun(mE:(((List ae)×Unit)×Unit)) =>
          ((y8.2.1.1)[p9.2]?).bind fun(qk:ah) =>
          (FX G 182 mU ((b.1,()),(((List.set y8.2.1.1 p9.2 (qk.1,(mE.1.1,qk.2.2))),(y8.2.1.2.1,y8.2.1.2.2)),()))).bind fun(la:((Int×(Bool×Unit))×(aV×Unit))) =>
          cond (jC la.2.1.2.1 la.1.1 (IntKind.wrap .i64 (la.1.1+(1:Int))))
           (LX G 157 rf Tryz.f157 nG (aM Tryz.prog 157 0) (((0:Int),()),(((la.2.1.1,((du la.2.1.2.1 la.1.1 (IntKind.wrap .i64 (la.1.1+(1:Int)))),la.2.1.2.2)),((a,()),((b,()),(((y7.1.1.1,y7.1.1.2),()),())))),())))
           (none))
          (none))
         (none))=some (((0:Int),()),(((Ku s o a b).1,((Ku s o a b).2,(Ij s.2 a b,()))),())):=by
    intro a b hp nO
    obtain⟨p,q,h1,_,h2,_⟩:=rB h.d.sv hv
    have pd:(au s.1.1).Perm (a::b::au (p++q)):=by
      have:=(iR p q v).trans (List.Perm.append_right _ hp)
      rw[←h1]at this;exact this
    have Md:dA s.1.1 (aK o)=p++q:=by rw[←hvi];exact h2
    have N4:bf s.1 (aK o) zI=(p++q,s.1.2):=by unfold bf;rw[Md,vO h.d.ge]
    have DM:=pd.nodup_iff.1 hgr.n
    have hbm:b∈ends s.1.2:=h.d.pd.mem_iff.1 (pd.mem_iff.2 (by simp))
    obtain⟨e,he,ZM,zr⟩:=cQ.1 hbm
    have zF:(aT s.1.2 b.1).isSome=true:=by
      unfold aT;rw[List.find?_isSome];exact⟨e,he,by simpa using ZM⟩
    obtain⟨_,ho⟩:=iV zr
    have X7:ar b∈au (p++q):=by
      have h3:ar b∈au s.1.1:=h.d.kR (s:=(ar b).2) zF (by rcases ho with⟨_,k⟩|⟨_,k⟩<;>omega)
      rcases List.mem_cons.1 (pd.mem_iff.1 h3) with k|k
      · exact absurd (congrArg Prod.fst k) (fun k=>nO k.symm)
      rcases List.mem_cons.1 k with k|k
      · have:=congrArg Prod.snd k;omega
      · exact k
    have UX:Rw (p++q):=⟨by rw[←h2];exact pW h.d.sv,(List.nodup_cons.1 (List.nodup_cons.1 DM).2).2⟩
    have bC:∀u∈p++q,u∈s.1.1:=fun u hu=>by
      rw[h1]
      rcases List.mem_append.1 hu with k|k
      · exact List.mem_append_left _ k
      · exact List.mem_append_right _ (List.mem_cons_of_mem _ k)
    have Fa:Sv (p++q):=⟨by
      have:=hs.n;rw[h1]at this;simp at this ⊢;omega,fun u hu=>hs.r u (bC u hu)⟩
    obtain⟨dk1,dk2⟩:=Sc h.d.sv hfs (by omega)
    rw[Md]at dk2
    obtain⟨k,u,hk,hxu,hu⟩:=rC X7
    have e1:(p++q).set k (u.1,(jF u.2.1 (ar b) a,u.2.2))=(aH (p++q,s.1.2) (ar b) a).1:=Iy UX hk hxu _ s.1.2
    have OZ:∀w∈(aH (p++q,s.1.2) (ar b) a).1,GV w:=ui (d:=(p++q,s.1.2)) (fun w hw=>h.d.gv w (bC w hw)) _ _
    have eD:Ku s o a b=((aH (p++q,s.1.2) (ar b) a).1,c6 s.1.2 b.1):=by
      unfold Ku
      rw[N4]
      unfold bf
      rw[vP OZ];rfl
    have ga:=j5 h.g h.n ((b.1,0),qx a b 0)
    rw[eD]
    refine aa (Iu (hG _ _ rfl) b zr) ?_
    refine af dk1 ?_
    have r1:∀l1:List ah,l1=p++q→((FX G 185 lZ ((ar b,()),((l1,(s.1.2,(s.2,()))),()))).bind fun(y8:(((Option ((Fin 1)×Nat))×Unit)×(aV×Unit))) =>
         qE y8.1.1
          (none) fun(p9:((Fin 1)×Nat)) =>
         cond (p9.1.val==0)
          (((y8.2.1.1)[p9.2]?).bind fun(oU:ah) =>
          (FX G 187 tf ((oU.2.1,(ar b,(a,()))),())).bind fun(mE:(((List ae)×Unit)×Unit)) =>
          ((y8.2.1.1)[p9.2]?).bind fun(qk:ah) =>
          (FX G 182 mU ((b.1,()),(((List.set y8.2.1.1 p9.2 (qk.1,(mE.1.1,qk.2.2))),(y8.2.1.2.1,y8.2.1.2.2)),()))).bind fun(la:((Int×(Bool×Unit))×(aV×Unit))) =>
          cond (jC la.2.1.2.1 la.1.1 (IntKind.wrap .i64 (la.1.1+(1:Int))))
           (LX G 157 rf Tryz.f157 nG (aM Tryz.prog 157 0) (((0:Int),()),(((la.2.1.1,((du la.2.1.2.1 la.1.1 (IntKind.wrap .i64 (la.1.1+(1:Int)))),la.2.1.2.2)),((a,()),((b,()),((ar b,()),())))),())))
           (none))
          (none))=some (((0:Int),()),(((aH (p++q,s.1.2) (ar b) a).1,(c6 s.1.2 b.1,(Ij s.2 a b,()))),())):=by
      intro l1 hl1
      subst hl1
      refine aa (Eo hG (p++q,(s.1.2,(s.2,()))) (ar b) UX Fa.n Fa.r hk hxu) ?_
      refine tn rfl (af rfl (aa hk ?_))
      refine aa (WC hG u.2.1 (ar b) a (Fa.r u hu)) ?_
      refine aa hk ?_
      have r2:∀l2:List ah,l2=(aH (p++q,s.1.2) (ar b) a).1→((FX G 182 mU ((b.1,()),((l2,(s.1.2,(s.2,()))),()))).bind fun(la:((Int×(Bool×Unit))×(aV×Unit))) =>
          cond (jC la.2.1.2.1 la.1.1 (IntKind.wrap .i64 (la.1.1+(1:Int))))
           (LX G 157 rf Tryz.f157 nG (aM Tryz.prog 157 0) (((0:Int),()),(((la.2.1.1,((du la.2.1.2.1 la.1.1 (IntKind.wrap .i64 (la.1.1+(1:Int)))),la.2.1.2.2)),((a,()),((b,()),((ar b,()),())))),())))
           (none))=some (((0:Int),()),(((aH (p++q,s.1.2) (ar b) a).1,(c6 s.1.2 b.1,(Ij s.2 a b,()))),())):=by
        intro l2 wy
        subst wy
        refine aa (oJ hG ((aH (p++q,s.1.2) (ar b) a).1,(s.1.2,(s.2,()))) b.1 h.d.se (by show s.1.2.length≤_;omega)) ?_
        obtain⟨ek1,ek2⟩:=Ix h.d.se zF (by omega)
        refine af ek1 ?_
        have r3:∀l3:List ai,l3=c6 s.1.2 b.1→(LX G 157 rf Tryz.f157 nG (aM Tryz.prog 157 0) (((0:Int),()),((((aH (p++q,s.1.2) (ar b) a).1,(l3,(s.2,()))),((a,()),((b,()),((ar b,()),())))),())))=some (((0:Int),()),(((aH (p++q,s.1.2) (ar b) a).1,(c6 s.1.2 b.1,(Ij s.2 a b,()))),())):=by
          intro l3 hl3
          subst hl3
          have eb:b=(b.1,b.2):=rfl
          have eo:ar b=(b.1,(ar b).2):=rfl
          rcases ho with⟨B2,P9⟩|⟨NG,ho0⟩
          · rw[B2]at eb;rw[P9]at eo
            have t0:qx a b 0=zD:=by unfold qx;rw[if_neg (by rw[eo];simp)]
            have t1:qx a b 1=a:=by unfold qx;rw[if_pos eo.symm]
            rw[t0,←eb]at ga
            have eG:Ij s.2 a b=bN (bN s.2 (b,zD)) (ar b,a):=by unfold Ij;rw[t0,t1,←eb,←eo]
            rw[eG]
            refine ao (j:=0) (by kernel_rfl) ((xd _ _ _).trans ?_)
            refine af rfl (af (by show(b.2==(0:Int))=true;simp[B2]) ?_)
            refine aa (En hG ((aH (p++q,s.1.2) (ar b) a).1,(c6 s.1.2 b.1,(s.2,()))) b zD h.g (by show s.2.length≤_;omega)) ?_
            refine ao (j:=0) (by kernel_rfl) ((xd _ _ _).trans ?_)
            refine af rfl (ag (by show(b.2==(1:Int))=false;simp[B2]) ?_)
            refine aa (En hG ((aH (p++q,s.1.2) (ar b) a).1,(c6 s.1.2 b.1,(bN s.2 (b,zD),()))) (ar b) a ga.1 (by have:=ga.2;show(bN s.2 (b,zD)).length≤_;omega)) ?_
            refine ao (j:=0) (by kernel_rfl) ((xd _ _ _).trans ?_)
            exact ag rfl rfl
          · rw[NG]at eb;rw[ho0]at eo
            have t0:qx a b 0=a:=by unfold qx;rw[if_pos eo.symm]
            have t1:qx a b 1=zD:=by unfold qx;rw[if_neg (by rw[eo];simp)]
            rw[t0,←eo]at ga
            have eG:Ij s.2 a b=bN (bN s.2 (ar b,a)) (b,zD):=by unfold Ij;rw[t0,t1,←eb,←eo]
            rw[eG]
            refine ao (j:=0) (by kernel_rfl) ((xd _ _ _).trans ?_)
            refine af rfl (ag (by show(b.2==(0:Int))=false;simp[NG]) ?_)
            refine aa (En hG ((aH (p++q,s.1.2) (ar b) a).1,(c6 s.1.2 b.1,(s.2,()))) (ar b) a h.g (by show s.2.length≤_;omega)) ?_
            refine ao (j:=0) (by kernel_rfl) ((xd _ _ _).trans ?_)
            refine af rfl (af (by show(b.2==(1:Int))=true;simp[NG]) ?_)
            refine aa (En hG ((aH (p++q,s.1.2) (ar b) a).1,(c6 s.1.2 b.1,(bN s.2 (ar b,a),()))) b zD ga.1 (by have:=ga.2;show(bN s.2 (ar b,a)).length≤_;omega)) ?_
            refine ao (j:=0) (by kernel_rfl) ((xd _ _ _).trans ?_)
            exact ag rfl rfl
        exact r3 _ ek2
      exact r2 _ e1
    exact r1 _ dk2
  have bo:∀y:ae,((y.1.1==(av o).1)&&(y.1.2==(av o).2))=decide (y.1=av o):=fun y=>jc y.1 (av o)
  by_cases h0:r0.1=av o
  · rw[if_pos h0]
    refine⟨0,((Ku s o r1 r0).1,((Ku s o r1 r0).2,(Ij s.2 r1 r0,()))),go _ _ (ag DZ (aa g0 (aa g1 (ag b01 (aa g0 (aa g1 (af ((bo r0).trans (decide_eq_true h0)) ?_))))))),rfl⟩
    refine aQ ((bo r0).trans (decide_eq_true h0)) (ag rfl ?_)
    exact tail r1 r0 (by rw[hr];exact List.Perm.swap _ _ _) (fun k=>Y8 k.symm)
  rw[if_neg h0]
  by_cases h1:r1.1=av o
  · rw[if_pos h1]
    refine⟨0,((Ku s o r0 r1).1,((Ku s o r0 r1).2,(Ij s.2 r0 r1,()))),go _ _ (ag DZ (aa g0 (aa g1 (ag b01 (aa g0 (aa g1 (ag ((bo r0).trans (decide_eq_false h0)) ?_))))))),rfl⟩
    refine aQ ((bo r1).trans (decide_eq_true h1)) (ag rfl ?_)
    exact tail r0 r1 (by rw[hr]) Y8
  rw[if_neg h1]
  refine⟨14,aL s,go _ _ (ag DZ (aa g0 (aa g1 (ag b01 (aa g0 (aa g1 (ag ((bo r0).trans (decide_eq_false h0)) ?_))))))),rfl⟩
  exact aQ ((bo r1).trans (decide_eq_false h1)) (af rfl rfl)
end Go.Vs
namespace Go.Vs
open Go.Proofs
theorem Ep{row:List ae}(hn:row.Nodup){i j:Nat}{hi:i<row.length}{hj:j<row.length}(h:row[i]=row[j]):i=j:=by
 rcases Nat.lt_trichotomy i j with k|k|k
 ·exact absurd h (List.pairwise_iff_getElem.1 hn i j hi hj k)
 ·exact k
 ·exact absurd h.symm (List.pairwise_iff_getElem.1 hn j i hj hi k)
theorem Er{row:List ae}(hn:row.Nodup){i j:Nat}{x:ae}(hi:row[i]? = some x)(hj:row[j]? = some x):i=j:=by
 obtain⟨h1,h2⟩:=List.getElem?_eq_some_iff.1 hi
 obtain⟨h3,h4⟩:=List.getElem?_eq_some_iff.1 hj
 exact Ep hn (h2.trans h4.symm)
theorem Iz(row:List ae):∃j,j≤row.length∧cw row=CT row j:=by
 by_cases h0:row.length=0
 ·have:row=[]:=by simpa using h0
  subst this;exact⟨0,by simp,rfl⟩
 ·exact⟨fG row row 0 0,Nat.le_of_lt (pT row row 0 0 (by omega) (by omega)),rfl⟩
theorem UY{row:List ae}(hn:row.Nodup){k:Nat}{x:ae}(hk:row[k]? = some x):idx x row 0=(k:Int):=by
 have:=Kx (d:=x) (row:=row) (k:=k) (i:=0) hk (fun j hj he=>by have:=Er hn hk he;omega)
 omega
end Go.Vs
namespace Go.Vs
open Go.Proofs
variable {G:(f:FuncId)→(g:aN)→Option (g.A→Option g.B)}
theorem N6(l:List ah)(x:ID):l.any (fun w=>decide (w.1=x))=(ba l x).isSome:=by
 rw[Bool.eq_iff_iff,List.any_eq_true];unfold ba;rw[List.find?_isSome]
theorem N7(l:List ai)(x:ID):l.any (fun w=>decide (w.1=x))=(aT l x).isSome:=by
 rw[Bool.eq_iff_iff,List.any_eq_true];unfold aT;rw[List.find?_isSome]
theorem N8(s:StateT)(o:aZ):gE (ug (aL s) o).1 (ug (aL s) o).2=xi s o:=by
 unfold ug xi Ii FN
 rw[N6,N7]
 by_cases ho:gx o=true
 ·have hv:s.1.1.map (jf o)=s.1.1:=by
   conv=>rhs;rw[←List.map_id s.1.1]
   exact List.map_congr_left fun u hu=>by unfold jf;rw[if_neg (by rw[ho];simp)];rfl
  rw[if_pos ho,ho,hv]
  show gE (if(aT s.1.2 (aK o)).isSome=true then _ else _:Int×aV).1 (if(aT s.1.2 (aK o)).isSome=true then _ else _:Int×aV).2=_
  cases (aT s.1.2 (aK o)).isSome<;>rfl
 ·have nt:gx o=false:=by simpa using ho
  have he:s.1.2.map (jW o)=s.1.2:=by
   conv=>rhs;rw[←List.map_id s.1.2]
   exact List.map_congr_left fun u hu=>by unfold jW;rw[if_neg (by rw[nt];simp)];rfl
  rw[if_neg ho,nt,he]
  show gE (if(ba s.1.1 (aK o)).isSome=true then _ else _:Int×aV).1 (if(ba s.1.1 (aK o)).isSome=true then _ else _:Int×aV).2=_
  cases (ba s.1.1 (aK o)).isSome<;>rfl
theorem Sd(hG:HG G)(w:aV)(o:aZ)(hk:7≤o.1)(hv:bY w.1)(he:dk w.2.1)(OX:w.1.length≤50000000)(hle:w.2.1.length≤50000000) :
  FX G 131 Bg ((o,()),(w,()))=some (((ug w o).1,()),((ug w o).2,())):=by
 refine aw (fn:=Tryz.f131) (hG _ _ rfl) (by kernel_rfl) (by kernel_rfl) ((Ki _ _ _).trans ?_)
 have kn:∀k:Int,k<7→(o.1==k)=false:=fun k oT=>yO (by omega)
 refine ag (kn 1 (by omega)) (ag (kn 2 (by omega)) (ag (kn 3 (by omega)) (ag (kn 4 (by omega)) (ag (kn 5 (by omega)) (ag (kn 6 (by omega)) ?_)))))
 exact aa (ahd hG w o hv he OX hle) rfl
def O0(x:ID)(e:Bool)(t:ByteArray):aZ:=(7,(x,(zI,(zI,(zC,(zC,(e,(t,0))))))))
def Se(x:ID)(e:Bool)(n:Int):aZ:=(8,(x,(zI,(zI,(zC,(zC,(e,(e0,n))))))))
theorem Me{x:ID}{e:Bool}{t:ByteArray}(hx:b4 x=true)(ht:mG t=true):bz (O0 x e t)=0:=by
 unfold bz
 rw[if_neg (by simp[O0]),if_neg (by simp[O0]),if_neg (by simp[O0,hx]),if_neg,if_neg (by simp[O0]),if_neg (by simp[O0]),if_neg (by simp[O0]),if_neg (by simp[O0]),if_pos (show(O0 x e t).1=7 from rfl)]
 ·exact if_pos ht
 intro h
 have:pV (jH (O0 x e t)) Jp=true:=(ia _ _).2 rfl
 rw[this]at h;cases h
theorem Mf{x:ID}{e:Bool}{n:Int}(hx:b4 x=true)(ht:kD n=true):bz (Se x e n)=0:=by
 unfold bz
 rw[if_neg (by simp[Se]),if_neg (by simp[Se]),if_neg (by simp[Se,hx]),if_neg,if_neg (by simp[Se]),if_neg (by simp[Se]),if_neg (by simp[Se]),if_pos (show(Se x e n).1=8 from rfl)]
 ·exact if_pos ht
 intro h
 have:pV (jH (Se x e n)) Jp=true:=(ia _ _).2 rfl
 rw[this]at h;cases h
theorem Yb:NV 0:=by unfold NV;omega
theorem Mg{l:List ah}(hs:bY l){v w:ah}(hv:v∈l)(hw:w∈l)(h:w.1=v.1):w=v:=by
 have h1:=kI hs hv
 have h2:=kI hs hw
 rw[h,h1]at h2
 exact(Option.some.inj h2).symm
structure Lay(s t:StateT):Prop where
 v:bY t.1.1
 e:dk t.1.2
 sm:Sm t.1
 g:t.2.length≤50000000
end Go.Vs
namespace Go.Vs
open Go.Proofs
variable {G:(f:FuncId)→(g:aN)→Option (g.A→Option g.B)}
theorem IA(l:List ai):(ends l).length=2*l.length:=by
 induction l with
 |nil=>rfl
 |cons e r ih=>rw[jZ];simp[ih];omega
theorem UZ{l:List ah}{v:ah}(h:v∈l):v.2.1.length≤(au l).length:=by
 obtain⟨a,b,rfl⟩:=List.append_of_mem h
 rw[oK,iF];simp;omega
theorem Wf.uj{d:aj}(h:Wf d):∀v∈d.1,v.2.1.length≤80:=fun v hv=>by
 have h1:=UZ hv
 have h2:=h.pd.length_eq
 have h3:=h.ne
 rw[IA]at h2;omega
theorem Wf.sm{d:aj}(h:Wf d):Sm d:=⟨by have:=h.nv;omega,by have:=h.ne;omega,fun v hv=>by have:=h.uj v hv;omega⟩
theorem Wf.small{d:aj}(h:Wf d):Sv d.1:=⟨by have:=h.nv;omega,fun v hv=>by have:=h.uj v hv;omega⟩
theorem N9(s:StateT)(o:aZ):gE (qn (aL s) (aK o,([],(e0,0)))).1 (qn (aL s) (aK o,([],(e0,0)))).2=ql s o:=by
 by_cases hh:(ba s.1.1 (aK o)).isSome=true
 ·have a:qn (aL s) (aK o,([],(e0,0)))=(12,aL s):=if_pos hh
  have b:ql s o=(zS,(12,())):=if_pos hh
  rw[a,b];rfl
 by_cases h:24≤s.1.1.length
 ·have a:qn (aL s) (aK o,([],(e0,0)))=(3,aL s):=(if_neg hh).trans (if_pos h)
  have b:ql s o=(zS,(3,())):=(if_neg hh).trans (if_pos h)
  rw[a,b];rfl
 ·have a:qn (aL s) (aK o,([],(e0,0)))=(0,(eI (aK o,([],(e0,0))) (aL s).1,(aL s).2)):=(if_neg hh).trans (if_neg h)
  have b:ql s o=(((eI (aK o,([],(e0,0))) s.1.1,s.1.2),s.2),(0,())):=(if_neg hh).trans (if_neg h)
  rw[a,b];rfl
theorem Oa{s:StateT}(h:fH s)(o:aZ):gE (Ec (aL s) (aK o)).1 (Ec (aL s) (aK o)).2=yN s o:=by
 unfold Ec yN aR
 show gE (match ba s.1.1 (aK o) with|none=>(13,aL s)|some v=>if 0<v.2.1.length then(14,aL s) else(0,(dA s.1.1 (aK o),(s.1.2,(s.2,())))):Int×aV).1 (match ba s.1.1 (aK o) with|none=>(13,aL s)|some v=>if 0<v.2.1.length then(14,aL s) else(0,(dA s.1.1 (aK o),(s.1.2,(s.2,())))):Int×aV).2=_
 cases ba s.1.1 (aK o) with
 |none=>rfl
 |some v =>
  simp only
  by_cases hl:0<v.2.1.length
  ·rw[if_pos hl,if_pos hl];rfl
  ·rw[if_neg hl,if_neg hl]
   unfold bf
   rw[vO h.d.ge];rfl
def Mh(s:StateT)(o:aZ):StateT×(Int×Unit) :=
 if o.1=1 then ql s o else if o.1=2 then yN s o else if o.1=3 then oG s o else if o.1=4 then Dm s o else if o.1=5 then ml s o else if o.1=6 then kc s o else xi s o
theorem Es(s:StateT)(o:aZ):dX s o=if bz o≠0 then(zS,(bz o,())) else Mh s o:=rfl
theorem IB(hG:HG G)(s:StateT)(o:aZ)(h:fH s)(hm:bz o=0)(h3:o.1=3→∃(e:Int) (w:aV),FX G 154 oq ((o,()),(aL s,()))=some ((e,()),(w,()))∧gE e w=oG s o) :
  ∃(e:Int) (w:aV),FX G 131 Bg ((o,()),(aL s,()))=some ((e,()),(w,()))∧gE e w=Mh s o:=by
 have hk:=oL hm
 have U3:=h.d.small
 have TY:=h.d.nv;have br:=h.d.ne
 have start:∀(e:Int) (w:aV),bU 131 Bg Tryz.f131 (FX G) (LX G 131 Bg Tryz.f131) ((o,()),(aL s,()))=some ((e,()),(w,()))→FX G 131 Bg ((o,()),(aL s,()))=some ((e,()),(w,())):=fun e w a =>
  aw (fn:=Tryz.f131) (hG _ _ rfl) (by kernel_rfl) (by kernel_rfl) a
 unfold Mh
 by_cases h1:o.1=1
 ·rw[if_pos h1]
  refine⟨_,_,start _ _ ((Ki _ _ _).trans (af (Gk h1) (aa (X4 hG (aL s) (aK o,([],(e0,0))) h.d.sv U3.n) rfl))),?_⟩
  exact N9 s o
 rw[if_neg h1]
 by_cases h2:o.1=2
 ·rw[if_pos h2]
  refine⟨_,_,start _ _ ((Ki _ _ _).trans (ag (yO h1) (af (Gk h2) (aa (ag5 hG (aL s) o h.d.sv U3.n) rfl)))),?_⟩
  exact Oa h o
 rw[if_neg h2]
 by_cases OY:o.1=3
 ·rw[if_pos OY]
  obtain⟨e,w,a,b⟩:=h3 OY
  exact⟨e,w,start _ _ ((Ki _ _ _).trans (ag (yO h1) (ag (yO h2) (af (Gk OY) (aa a rfl))))),b⟩
 rw[if_neg OY]
 by_cases hk4:o.1=4
 ·rw[if_pos hk4]
  obtain⟨e,w,a,b⟩:=ahg hG s o h U3
  exact⟨e,w,start _ _ ((Ki _ _ _).trans (ag (yO h1) (ag (yO h2) (ag (yO OY) (af (Gk hk4) (aa a rfl)))))),b⟩
 rw[if_neg hk4]
 by_cases X9:o.1=5
 ·rw[if_pos X9]
  obtain⟨e,w,a,b⟩:=ahk hG s o h U3 hm X9
  exact⟨e,w,start _ _ ((Ki _ _ _).trans (ag (yO h1) (ag (yO h2) (ag (yO OY) (ag (yO hk4) (af (Gk X9) (aa a rfl))))))),b⟩
 rw[if_neg X9]
 by_cases hk6:o.1=6
 ·rw[if_pos hk6]
  obtain⟨e,w,a,b⟩:=ahq hG s o h U3
  exact⟨e,w,start _ _ ((Ki _ _ _).trans (ag (yO h1) (ag (yO h2) (ag (yO OY) (ag (yO hk4) (ag (yO X9) (af (Gk hk6) (aa a rfl)))))))),b⟩
 rw[if_neg hk6]
 refine⟨_,_,Sd hG (aL s) o (by omega) h.d.sv h.d.se U3.n (by show s.1.2.length≤_;omega),?_⟩
 exact N8 s o
theorem IC(hG:HG G)(s:StateT)(o:aZ)(h:fH s)(hf:Fit o)(h3:bz o=0→o.1=3→∃(e:Int) (w:aV),FX G 154 oq ((o,()),(aL s,()))=some ((e,()),(w,()))∧gE e w=oG s o) :
  FX G 73 Kc ((s,o,()),())=some (dX s o,()):=by
 rw[Es]
 have hn:=h.n
 by_cases hm:bz o=0
 ·obtain⟨e,w,a,b⟩:=IB hG s o h hm (h3 hm)
  refine(UQ hG s o (X5 hG o hf) h.d.sm (by omega) (fun _=>a)).trans ?_
  rw[hm,if_neg (by simp),b];rfl
 ·rw[if_pos hm]
  refine aw (fn:=Tryz.f73) (hG _ _ rfl) (by kernel_rfl) (by kernel_rfl) ((aag _ _ _).trans ?_)
  refine aa (X5 hG o hf) ?_
  exact af (by simpa using hm) rfl
end Go.Vs
namespace Go.Vs
open Go.Proofs
variable {G:(f:FuncId)→(g:aN)→Option (g.A→Option g.B)}
def qa(G:(f:FuncId)→(g:aN)→Option (g.A→Option g.B))(o:aZ):Prop:=∀s,fH s→bz o=0→o.1=3→∃(e:Int) (w:aV),FX G 154 oq ((o,()),(aL s,()))=some ((e,()),(w,()))∧gE e w=oG s o
theorem Sf{s:StateT}{o:aZ}(hm:bz o=0):Mh s o=dX s o:=by rw[Es,if_neg (by simp[hm])]
theorem ahu(hG:HG G)(l:List aZ)(hl:l.length≤1073741824)(hm:∀o∈l,bz o=0)(h3:∀o∈l,qa G o):∀(n i:Nat) (s:StateT),i+n=l.length→fH s →
  LX G 103 Dd Tryz.f103 BG (aM Tryz.prog 103 0) ((l,(((l.length:Nat):Int),((i:Int),()))),((zW,(aL s,())),()))=some (vM (l.drop i) s,()):=by
 intro n
 induction n with
 |zero =>
  intro i s hi hw
  refine ao (j:=0) (by kernel_rfl) ((Fs _ _ _).trans ?_)
  refine ag (decide_eq_false (show ¬((i:Int)<((l.length:Nat):Int)) by omega)) ?_
  rw[List.drop_eq_nil_of_le (by omega)];rfl
 |succ n ih =>
  intro i s hi hw
  have aF:i<l.length:=by omega
  have ho:=hm l[i] (List.getElem_mem aF)
  obtain⟨e,w,h1,h2⟩:=IB hG s l[i] hw ho (h3 _ (List.getElem_mem aF) s hw ho)
  rw[Sf ho]at h2
  refine ao (j:=0) (by kernel_rfl) ((Fs _ _ _).trans ?_)
  refine af (aX aF) (aa (ax (List.getElem?_eq_getElem aF)) ?_)
  refine aa h1 ?_
  rw[List.drop_eq_getElem_cons aF,vM]
  have ES:=hw.one l[i]
  by_cases he:e=0
  ·have e1:gE e w=(zX w,(0,())):=if_neg (by simp[he])
   rw[e1]at h2
   rw[←h2]at ES ⊢
   rw[if_neg (by simp)]
   refine ag (show(e != 0)=false by simp[he]) ?_
   have:=ih (i+1) (zX w) (by omega) ES
   rw[←aE aF hl]at this
   exact this
  ·have e1:gE e w=(zS,(e,())):=if_pos he
   rw[e1]at h2
   rw[←h2,if_pos he]
   exact af (show(e != 0)=true by simp[he]) rfl
theorem Yc(hG:HG G)(s:StateT)(l:List aZ)(hw:fH s)(hl:l.length≤1073741824)(hm:∀o∈l,bz o=0)(h3:∀o∈l,qa G o):FX G 103 Dd ((s,l,()),())=some (vM l s,()):=by
 have hn:=hw.n
 refine aw (fn:=Tryz.f103) (hG _ _ rfl) (by kernel_rfl) (by kernel_rfl) ((aah _ _ _).trans ?_)
 refine aa (ab2 hG s.1 hw.d.sm) ?_
 refine aa (X3 (hG _ _ rfl) s.2 (by omega)) ?_
 have:=ahu hG l hl hm h3 l.length 0 s (by omega) hw
 rw[List.drop_zero]at this
 exact this
theorem IE(l:List aZ)(h:kE l=0):∀o∈l,bz o=0:=by
 induction l with
 |nil=>intro o ho;simp at ho
 |cons o r ih =>
  rw[kE]at h
  by_cases ho:bz o=0
  ·rw[if_neg (fun k=>k ho)]at h
   intro p hp
   rcases List.mem_cons.1 hp with e|hp
   ·rw[e];exact ho
   ·exact ih h p hp
  ·rw[if_pos ho]at h;exact absurd h ho
theorem KE{l:List aZ}(h:eu l=0):∀o∈l,bz o=0:=by
 unfold eu at h
 split at h
 ·exact IE l h
 ·cases h
theorem ahv(hG:HG G)(s:StateT)(l:List aZ)(hw:fH s)(hl:l.length≤1073741824)(hf:∀o∈l,Fit o)(h3:∀o∈l,qa G o):FX G 63 Qh ((s,l,()),())=some (cH s l,()):=by
 refine aw (fn:=Tryz.f63) (hG _ _ rfl) (by kernel_rfl) (by kernel_rfl) ((afn _ _ _).trans ?_)
 refine aa (ahc hG l hl hf) ?_
 unfold cH
 by_cases hm:eu l=0
 ·rw[if_neg (by simp[hm])]
  refine ag (show(eu l != 0)=false by simp[hm]) ?_
  exact aa (Yc hG s l hw hl (KE hm) h3) rfl
 ·rw[if_pos hm]
  exact af (show(eu l != 0)=true by simp[hm]) rfl
end Go.Vs
