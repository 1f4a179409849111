/- Edges cut and split, vertices smoothed: what the program computes. -/
import Derived.Test.YtpkfpbpbkabkdaaGreatFormed
import Derived.Test.YtpkfpbpbkabkdaaGreatTop
set_option linter.unusedVariables false
set_option linter.unusedSimpArgs false
namespace Go.Vs
open Go.Proofs
variable {G:(f:FuncId)→(g:aM)→Option (g.A→Option g.B)}
theorem Wp(hG:HG G)(v:az)(x:ae):FX G 232 DW ((v,x,()),())=some ((mi v.1 x,()),()):=by
 refine ax (fn:=Tryz.f232) (hG _ _ rfl) (by kernel_rfl) (by kernel_rfl) ((aaE _ _ _).trans ?_)
 exact aa (Wl hG v.1 x) rfl
def dz(l:List az)(x:ae):Nat:=l.countP fun v=>kE v.1 x
theorem FN(l:List az)(x:ae):dz l x≤l.length:=List.countP_le_length
theorem xx{l:List az}{x:ae}(h:∀v∈l,kE v.1 x=false):dz l x=0:=by
 unfold dz;rw[List.countP_eq_zero];intro v hv;simp[h v hv]
theorem Ed{x:ae}:∀{l:List az},iV l→∀(k:Nat) (v:az),l[k]? = some v→(kE v.1 x=true↔k<dz l x)
 |[],_,k,v,h=>by simp at h
 |w::r,hs,k,v,h=>by
  have hw:∀{u:az},u∈r→kE w.1 u.1=true:=fun {u} hu=>List.rel_of_pairwise_cons hs hu
  have hr:iV r:=hs.of_cons
  by_cases aF:kE w.1 x=true
  ·have e:dz (w::r) x=dz r x+1:=by unfold dz;rw[List.countP_cons_of_pos (by simpa using aF)]
   cases k with
   |zero=>simp at h;subst h;simp[aF,e]
   |succ k=>have:=Ed (x:=x) hr k v (by simpa using h);rw[this,e];omega
  ·have hn:∀u∈w::r,kE u.1 x=false:=fun u hu=>by
    rcases List.mem_cons.1 hu with rfl|hu
    ·simpa using aF
    ·rw[Bool.eq_false_iff];intro h2;exact aF (fN (hw hu) h2)
   rw[xx hn,hn v (List.mem_of_getElem? h)]
   simp
theorem RJ(hG:HG G)(l:List az)(x:ae)(hs:iV l)(hl:l.length≤50000000):∀(n i j:Nat),j-i≤n→i≤dz l x→dz l x≤j→j≤l.length →
  LX G 233231 jv Tryz.f231 iF (aN Tryz.prog 231 0) ((l,(((l.length:Nat):Int),((i:Int),((j:Int),())))),(((x,()),()),()))=some (((((dz l x:Nat):Int),(decide ((l[dz l x]?).map (·.1)=some x),())):Int×(Bool×Unit)),()):=by
 have tI:=FN l x
 have fin:∀(i j:Nat),¬(i<j)→i≤dz l x→dz l x≤j→LX G 233231 jv Tryz.f231 iF (aN Tryz.prog 231 0) ((l,(((l.length:Nat):Int),((i:Int),((j:Int),())))),(((x,()),()),()))=some (((((dz l x:Nat):Int),(decide ((l[dz l x]?).map (·.1)=some x),())):Int×(Bool×Unit)),()):=fun i j zk h1 h2=>by
  have hi:i=dz l x:=by omega
  subst hi
  refine ar (j:=0) (by kernel_rfl) ((BI _ _ _).trans ?_)
  refine ag (decide_eq_false (show ¬(((dz l x:Nat):Int)<(j:Int)) by omega)) ?_
  by_cases hc:dz l x<l.length
  ·have hx:l[dz l x]? = some l[dz l x]:=List.getElem?_eq_getElem hc
   refine af (aZ hc) ?_
   refine aa (aB hx) ?_
   refine aa (Wp hG l[dz l x] x) ?_
   refine congrArg (fun b:Bool=>some ((((dz l x:Nat):Int),(b,())),())) ?_
   rw[hx]
   unfold mi
   by_cases he:l[dz l x].1=x
   ·simp[he]
   ·simp[he];split<;>simp
  ·refine ag (decide_eq_false (show ¬(((dz l x:Nat):Int)<((l.length:Nat):Int)) by omega)) ?_
   refine congrArg (fun b:Bool=>some ((((dz l x:Nat):Int),(b,())),())) ?_
   rw[List.getElem?_eq_none (by omega)];simp
 intro n
 induction n with
 |zero=>intro i j zk h1 h2 h3;exact fin i j (by omega) h1 h2
 |succ n ih =>
  intro i j zk h1 h2 h3
  by_cases aF:i<j
  case neg=>exact fin i j aF h1 h2
  refine ar (j:=0) (by kernel_rfl) ((BI _ _ _).trans ?_)
  refine af (decide_eq_true (show((i:Int)<(j:Int)) by omega)) ?_
  refine ag rfl ?_
  have hm:=Ke (i:=i) (j:=j) (by omega) (by omega)
  have hh:(i+j) / 2<l.length:=by omega
  have hx:l[(i+j) / 2]? = some l[(i+j) / 2]:=List.getElem?_eq_getElem hh
  have om:=Ed (x:=x) hs ((i+j) / 2) _ hx
  refine aa (show ba l (IntKind.wrap .i64 (kZ .u64 (IntKind.wrap .u64 (IntKind.wrap .i64 ((i:Int)+(j:Int)))) (1:Int)))=some l[(i+j) / 2] by rw[hm];exact aB hx) ?_
  refine aa (Wp hG l[(i+j) / 2] x) ?_
  by_cases ho:kE l[(i+j) / 2].1 x=true
  ·refine af (decide_eq_true ((sD _ _).2 ho)) ?_
   have hc:=om.1 ho
   have hw:IntKind.wrap .i64 (IntKind.wrap .i64 (kZ .u64 (IntKind.wrap .u64 (IntKind.wrap .i64 ((i:Int)+(j:Int)))) (1:Int))+1)=(((i+j) / 2+1:Nat):Int):=by
    rw[hm];exact aG hh (by omega)
   have:=ih ((i+j) / 2+1) j (by omega) (by omega) h2 h3
   rw[←hw]at this
   exact this
  ·refine ag (decide_eq_false (fun h=>ho ((sD _ _).1 h))) ?_
   have hc:¬(i+j) / 2<dz l x:=fun h=>ho (om.2 h)
   have:=ih i ((i+j) / 2) (by omega) h1 (by omega) (by omega)
   rw[←hm]at this
   exact this
theorem RL(hG:HG G)(l:List az)(x:ae)(hs:iV l)(hl:l.length≤50000000) :
  FX G 233231 jv ((l,x,()),())=some (((((dz l x:Nat):Int),(decide ((l[dz l x]?).map (·.1)=some x),())):Int×(Bool×Unit)),()):=by
 refine ax (fn:=Tryz.f231) (hG _ _ rfl) (by kernel_rfl) (by kernel_rfl) ((QR _ _ _).trans ?_)
 exact RJ hG l x hs hl l.length 0 l.length (by omega) (by omega) (FN l x) (Nat.le_refl _)
theorem Ie(g:az):∀{l:List az},iV l→lk g l=if(l[dz l g.1]?).map (·.1)=some g.1 then l.set (dz l g.1) g else l.take (dz l g.1)++(g::l.drop (dz l g.1))
 |[],_=>rfl
 |w::r,hs=>by
  have hw:∀{u:az},u∈r→kE w.1 u.1=true:=fun {u} hu=>List.rel_of_pairwise_cons hs hu
  have hr:iV r:=List.Pairwise.of_cons hs
  by_cases aF:kE w.1 g.1=true
  ·have e:dz (w::r) g.1=dz r g.1+1:=by unfold dz;rw[List.countP_cons_of_pos (by simpa using aF)]
   have br:w.1≠g.1:=fun k=>by rw[k,dN]at aF;cases aF
   have qT:¬mi g.1 w.1≤0:=fun k=>by
    rcases pY.1 k with k|k
    ·exact br k.symm
    ·have:=fN aF k;rw[dN]at this;cases this
   have ih:=Ie g hr
   rw[e,lk,if_neg qT,if_pos br,ih]
   simp only[List.getElem?_cons_succ,List.set_cons_succ,List.take_succ_cons,List.drop_succ_cons,List.cons_append]
   split<;>rfl
  ·have hn:∀u∈w::r,kE u.1 g.1=false:=fun u hu=>by
    rcases List.mem_cons.1 hu with rfl|hu
    ·simpa using aF
    ·rw[Bool.eq_false_iff];intro h2;exact aF (fN (hw hu) h2)
   rw[xx hn]
   by_cases he:w.1=g.1
   ·have XS:mi g.1 w.1≤0:=pY.2 (.inl he.symm)
    have h1:nH g (w::r)=r:=by
     have:nH g (w::r)=nH g r:=by unfold nH;rw[List.filter_cons_of_neg (by simp[he])]
     rw[this]
     exact sI (fun q hq k=>by have:=hw hq;rw[k,he,dN]at this;cases this)
    rw[lk,if_pos XS,h1,if_pos (by simp[he])];rfl
   ·have I9:kE g.1 w.1=true:=xp (by simpa using aF) he
    have XS:mi g.1 w.1≤0:=pY.2 (.inr I9)
    have h1:nH g (w::r)=w::r:=sI (fun q hq k=>by
     rcases List.mem_cons.1 hq with rfl|hq
     ·exact he k
     ·have:=fN I9 (hw hq);rw[k,dN]at this;cases this)
    rw[lk,if_pos XS,h1,if_neg (by simp[he])];rfl
theorem Ee{x:ae}:∀{l:List az},iV l→(gy l x).isSome=decide ((l[dz l x]?).map (·.1)=some x)
 |[],_=>rfl
 |w::r,hs=>by
  have hw:∀{u:az},u∈r→kE w.1 u.1=true:=fun {u} hu=>List.rel_of_pairwise_cons hs hu
  have hr:iV r:=List.Pairwise.of_cons hs
  rw[pZ]
  by_cases aF:kE w.1 x=true
  ·have e:dz (w::r) x=dz r x+1:=by unfold dz;rw[List.countP_cons_of_pos (by simpa using aF)]
   have br:w.1≠x:=fun k=>by rw[k,dN]at aF;cases aF
   rw[e,if_neg br,Ee hr,List.getElem?_cons_succ]
  ·have hn:∀u∈w::r,kE u.1 x=false:=fun u hu=>by
    rcases List.mem_cons.1 hu with rfl|hu
    ·simpa using aF
    ·rw[Bool.eq_false_iff];intro h2;exact aF (fN (hw hu) h2)
   rw[xx hn]
   by_cases he:w.1=x
   ·simp[he]
   ·have I9:kE x w.1=true:=xp (by simpa using aF) he
    have:gy r x=none:=by
     unfold gy
     have:(List.find? (fun q=>decide (q.1=x)) r)=none:=by
      rw[List.find?_eq_none];intro q hq k
      have k:q.1=x:=by simpa using k
      have:=fN I9 (hw hq);rw[k,dN]at this;cases this
     rw[this];rfl
    rw[if_neg he,this];simp[he]
theorem abN(hG:HG G)(l:List az)(g:az)(hs:iV l)(hl:l.length≤50000000):FX G 215 Hs ((l,g,()),())=some ((bN l g,()),()):=by
 refine ax (fn:=Tryz.f215) (hG _ _ rfl) (by kernel_rfl) (by kernel_rfl) ((aau _ _ _).trans ?_)
 refine aa (RL hG l g.1 hs hl) ?_
 refine aa (abE (hG _ _ rfl) l hl) ?_
 unfold bN
 rw[Ee hs,Ie g hs]
 have hc:dz l g.1≤l.length:=FN l g.1
 by_cases h:(l[dz l g.1]?).map (·.1)=some g.1
 ·rw[decide_eq_true h,if_neg (fun k=>by cases k.1),if_pos h]
  refine af rfl ?_
  obtain⟨u,hu,_⟩:∃u,l[dz l g.1]? = some u∧u.1=g.1:=by
   cases hq:l[dz l g.1]? with
   |none=>rw[hq]at h;cases h
   |some u=>rw[hq]at h;exact⟨u,rfl,by simpa using h⟩
  have aF:=(List.getElem?_eq_some_iff.1 hu).1
  refine af (cW (fg _) (aZ aF)) ?_
  exact aa hu rfl
 ·rw[decide_eq_false h,if_neg h]
  refine ag rfl ?_
  by_cases h4:400≤l.length
  ·rw[if_pos ⟨rfl,h4⟩]
   exact ag (decide_eq_false (show ¬((l.length:Nat):Int)<400 by omega)) rfl
  ·rw[if_neg (fun k=>h4 k.2)]
   refine af (decide_eq_true (show((l.length:Nat):Int)<400 by omega)) ?_
   have mz:qG l ((dz l g.1:Nat):Int) [g]=true:=by
    unfold qG
    rw[decide_eq_true (show(0:Int)≤((dz l g.1:Nat):Int) by omega),decide_eq_true (show((dz l g.1:Nat):Int)≤((l.length:Nat):Int) by omega)]
    rw[fits (by simp;omega)];rfl
   refine af mz ?_
   have e:gh l ((dz l g.1:Nat):Int) [g]=l.take (dz l g.1)++(g::l.drop (dz l g.1)):=by unfold gh;simp
   exact congrArg (fun r:List az=>some ((r,()),())) e
theorem Ef(hG:HG G)(w:aW)(x to:ae)(hs:iV w.2.2.1)(hl:w.2.2.1.length≤50000000):FX G 183 Be ((x,to,()),(w,()))=some ((),((w.1,(w.2.1,(bN w.2.2.1 (x,to),()))),())):=by
 refine ax (fn:=Tryz.f183) (hG _ _ rfl) (by kernel_rfl) (by kernel_rfl) ((aad _ _ _).trans ?_)
 exact aa (abN hG w.2.2.1 (x,to) hs hl) rfl
theorem Eg(hG:HG G)(w:aW)(x:ae)(hw:Rw w.1)(hl:w.1.length≤50000000)(hr:∀v∈w.1,v.2.1.length≤50000000){k:Nat}{v:ah}(hk:w.1[k]? = some v)(hx:x∈v.2.1) :
  FX G 185 l8 ((x,()),(w,()))=some (((some ((⟨0,by decide⟩:Fin 1),k)),()),(w,())):=by
 refine ax (fn:=Tryz.f185) (hG _ _ rfl) (by kernel_rfl) (by kernel_rfl) ((aaf _ _ _).trans ?_)
 have OV:=(List.getElem?_eq_some_iff.1 hk).1
 have loop:∀(n i:Nat),i+n=k→LX G 185 l8 Tryz.f185 vo (aN Tryz.prog 185 0) ((((w.1.length:Nat):Int),((i:Int),())),((w,((x,()),())),()))=some (((some ((⟨0,by decide⟩:Fin 1),k)),()),(w,())):=by
  intro n
  induction n with
  |zero =>
   intro i hi
   have hi:i=k:=by omega
   subst hi
   refine ar (j:=0) (by kernel_rfl) ((Lg _ _ _).trans ?_)
   refine af (aZ OV) (af (cW (fg _) (aZ OV)) (aa hk ?_))
   refine aa (D7 hG v.2.1 x (by have:=hr v (List.mem_of_getElem? hk);omega)) ?_
   exact af (decide_eq_true hx) rfl
  |succ n ih =>
   intro i hi
   have nF:i<w.1.length:=by omega
   have hu:w.1[i]? = some w.1[i]:=List.getElem?_eq_getElem nF
   have DK:x∉w.1[i].2.1:=fun hxi=>by
    have h1:w.1[i]=v:=hw.one (List.mem_of_getElem? hk) (List.getElem_mem nF) hx hxi
    have h2:=j0 hw.s hk rfl
    have h3:=j0 hw.s (x:=v.1) hu (by rw[h1])
    omega
   refine ar (j:=0) (by kernel_rfl) ((Lg _ _ _).trans ?_)
   refine af (aZ nF) (af (cW (fg _) (aZ nF)) (aa hu ?_))
   refine aa (D7 hG w.1[i].2.1 x (by have:=hr _ (List.getElem_mem nF);omega)) ?_
   refine ag (decide_eq_false DK) ?_
   have:=ih (i+1) (by omega)
   rw[←aG nF (by omega)]at this
   exact this
 exact loop k 0 (by omega)
theorem Kk{l:List ah}{k:Nat}{v:ah}(hs:bY l)(hk:l[k]? = some v)(r:List ae):l.set k (v.1,(r,v.2.2))=l.map (sw v.1 r):=by
 have h:=kJ hs (List.mem_of_getElem? hk)
 rw[j0 hs hk rfl]
 refine(H8 hs h (sw v.1 r) (fun u=>(u.1,(r,u.2.2))) (fun u hu=>?_) (fun u hu=>?_)).symm
 ·unfold sw;rw[if_pos hu]
 ·unfold sw;rw[if_neg hu]
theorem rC{l:List ah}{x:ae}(h:x∈au l):∃(k:Nat) (v:ah),l[k]? = some v∧x∈v.2.1∧v∈l:=by
 obtain⟨v,hv,hx⟩:=bg.1 h
 obtain⟨k,hk,he⟩:=List.getElem_of_mem hv
 exact⟨k,v,by rw[List.getElem?_eq_getElem hk,he],hx,hv⟩
structure Sv(l:List ah):Prop where
 n:l.length≤50000000
 r:∀v∈l,v.2.1.length≤50000000
theorem RM{n:Int}(h:n=0∨n=1):cT .xor .i64 n 1=IntKind.wrap .i64 (1-n):=by
 rcases h with rfl|rfl<;>decide
theorem Ig(hG:G 188 ow=none)(x:ae)(h:x.2=0∨x.2=1):FX G 188 ow ((x,()),())=some ((aq x,()),()):=by
 refine ax (fn:=Tryz.f188) hG (by kernel_rfl) (by kernel_rfl) ((aai _ _ _).trans ?_)
 exact congrArg (fun n:Int=>some ((((x.1,n):ae),()),())) (RM h)
theorem NI{d:aj}(h:Rw d.1){v:ah}{x:ae}(hv:v∈d.1)(hx:x∈v.2.1):dp d x=if(eO v.2.1 x).1=x.1 then(if(eO v.2.1 (eO v.2.1 x)).1=x.1 then zD else eO v.2.1 (eO v.2.1 x)) else eO v.2.1 x:=by
 unfold dp
 have e:aS d ((bM d x).getD zI)=v.2.1:=by
  unfold bM;rw[iH h hv hx];exact iU h.s hv
 simp only[e]
 by_cases h1:(eO v.2.1 x).1=x.1
 ·simp only[if_pos h1]
 ·simp only[if_neg h1]
theorem Wq(hG:HG G)(w:aW)(x:ae)(hw:Rw w.1)(hs:Sv w.1)(hx:x∈au w.1)(e:List ai):FX G 184 Bf ((x,()),(w,()))=some ((dp (w.1,e) x,()),(w,())):=by
 obtain⟨k,v,hk,jL,hv⟩:=rC hx
 have On:=hs.r v hv
 refine ax (fn:=Tryz.f184) (hG _ _ rfl) (by kernel_rfl) (by kernel_rfl) ((aae _ _ _).trans ?_)
 rw[NI (d:=(w.1,e)) hw hv jL]
 have prev:∀y:ae,FX G 140 Bi ((v.2.1,y,()),())=some (((eO v.2.1 y),((yE (cz v.2.1 y (v.2.1.length-1))).2)),()):=fun y=>by
  refine(Wo hG v.2.1 y (by omega)).trans ?_
  have:(yE (cz v.2.1 y (v.2.1.length-1))).1=eO v.2.1 y:=vI _
  rw[←this]
 have cI:∀y:ae,((y.1.1==x.1.1)&&(y.1.2==x.1.2))=decide (y.1=x.1):=fun y=>jc y.1 x.1
 refine ar (j:=0) (by kernel_rfl) ((Fh _ _ _).trans ?_)
 refine af rfl (aa (Eg hG w x hw hs.n hs.r hk jL) ?_)
 refine tq rfl (af rfl (aa hk ?_))
 refine aa (prev x) ?_
 by_cases h1:(eO v.2.1 x).1=x.1
 ·rw[if_pos h1]
  refine aQ ((cI _).trans (decide_eq_true h1)) ?_
  refine ar (j:=0) (by kernel_rfl) ((Fh _ _ _).trans ?_)
  refine af rfl (aa (Eg hG w x hw hs.n hs.r hk jL) ?_)
  refine tq rfl (af rfl (aa hk ?_))
  refine aa (prev (eO v.2.1 x)) ?_
  by_cases h2:(eO v.2.1 (eO v.2.1 x)).1=x.1
  ·rw[if_pos h2]
   refine aQ ((cI _).trans (decide_eq_true h2)) ?_
   refine ar (j:=0) (by kernel_rfl) ((Fh _ _ _).trans ?_)
   exact ag rfl rfl
  ·rw[if_neg h2]
   exact aQ ((cI _).trans (decide_eq_false h2)) rfl
 ·rw[if_neg h1]
  exact aQ ((cI _).trans (decide_eq_false h1)) rfl
theorem Ih{l:List ai}{x:ID}(hs:dm l)(h:(aT l x).isSome=true)(hl:l.length≤50000000) :
  jG l ((b5 l x:Nat):Int) (IntKind.wrap .i64 (((b5 l x:Nat):Int)+1))=true∧dw l ((b5 l x:Nat):Int) (IntKind.wrap .i64 (((b5 l x:Nat):Int)+1))=cZ l x:=by
 obtain⟨e,he⟩:=Option.isSome_iff_exists.1 h
 have aF:=(List.getElem?_eq_some_iff.1 (mr hs he)).1
 have hw:IntKind.wrap .i64 (((b5 l x:Nat):Int)+1)=((b5 l x+1:Nat):Int):=aG aF (by omega)
 constructor
 ·rw[hw]
  unfold jG
  rw[decide_eq_true (show(0:Int)≤((b5 l x:Nat):Int) by omega),decide_eq_true (show((b5 l x:Nat):Int)<((b5 l x+1:Nat):Int) by omega),decide_eq_true (show((b5 l x+1:Nat):Int)≤((l.length:Nat):Int) by omega),fits (by omega)];rfl
 ·rw[hw,xm hs h]
  unfold dw;simp only[Int.toNat_natCast]
theorem RN{l:List ah}{x:ID}(hs:bY l)(h:(aX l x).isSome=true)(hl:l.length≤50000000) :
  jG l ((bG l x:Nat):Int) (IntKind.wrap .i64 (((bG l x:Nat):Int)+1))=true∧dw l ((bG l x:Nat):Int) (IntKind.wrap .i64 (((bG l x:Nat):Int)+1))=dC l x:=by
 obtain⟨e,he⟩:=Option.isSome_iff_exists.1 h
 have aF:=(List.getElem?_eq_some_iff.1 (di hs he)).1
 have hw:IntKind.wrap .i64 (((bG l x:Nat):Int)+1)=((bG l x+1:Nat):Int):=aG aF (by omega)
 constructor
 ·rw[hw]
  unfold jG
  rw[decide_eq_true (show(0:Int)≤((bG l x:Nat):Int) by omega),decide_eq_true (show((bG l x:Nat):Int)<((bG l x+1:Nat):Int) by omega),decide_eq_true (show((bG l x+1:Nat):Int)≤((l.length:Nat):Int) by omega),fits (by omega)];rfl
 ·rw[hw,xj hs h]
  unfold dw;simp only[Int.toNat_natCast]
theorem Sv.re{l:List ah}(h:Sv l)(x:ID){r:List ae}(hr:r.length≤50000000):Sv (l.map (sw x r)):=by
 refine⟨by simp;exact h.n,fun w hw=>?_⟩
 obtain⟨u,hu,rfl⟩:=List.mem_map.1 hw
 unfold sw
 split
 ·exact hr
 ·exact h.r u hu
theorem Cb{row:List ae}(d:ae):(cC row d).length≤row.length:=by
 unfold cC;rw[gx];exact List.length_filter_le _ _
theorem LN{w:aW}{x:ae}(hw:Rw w.1){k:Nat}{v:ah}(hk:w.1[k]? = some v)(hx:x∈v.2.1)(e:List ai):w.1.set k (v.1,(cC v.2.1 x,v.2.2))=(aE (w.1,e) x).1:=by
 rw[j6 (d:=(w.1,e)) hw (List.mem_of_getElem? hk) hx]
 exact Kk hw.s hk _
theorem agL(hG:HG G)(s:StateT)(o:bj)(h:fX s)(hs:Sv s.1.1) :
  ∃(e:Int) (w:aW),FX G 155 A9 ((o,()),(aL s,()))=some ((e,()),(w,()))∧ib e w=Dd s o:=by
 have br:=h.d.ne
 unfold Dd
 cases hf:(aT s.1.2 (aK o)).isSome with
 |false =>
  refine⟨13,aL s,?_,?_⟩
  ·refine ax (fn:=Tryz.f155) (hG _ _ rfl) (by kernel_rfl) (by kernel_rfl) ((ZO _ _ _).trans ?_)
   refine aa (oK hG (aL s) (aK o) h.d.se (by show s.1.2.length≤_;omega)) ?_
   exact aQ ((dq (l:=s.1.2) h.d.se).trans hf) rfl
  ·rw[if_pos (show(cI s.1 (aK o)).isSome=false from hf)];rfl
 |true =>
  rw[if_neg (show ¬(cI s.1 (aK o)).isSome=false by show ¬(aT s.1.2 (aK o)).isSome=false;rw[hf];simp)]
  obtain⟨x,hx⟩:∃x:ae,x=(aK o,0):=⟨_,rfl⟩
  obtain⟨y,hy⟩:∃y:ae,y=(aK o,1):=⟨_,rfl⟩
  have hxd:x∈au s.1.1:=by rw[hx];exact h.d.kS hf (.inl rfl)
  have hyd:y∈au s.1.1:=by rw[hy];exact h.d.kS hf (.inr rfl)
  have g1:=j8 h.g h.n (x,dp s.1 x)
  have hn:=h.n
  obtain⟨p1,q1⟩:=fz h.d.rw hxd
  have agN:y∈au (aE s.1 x).1:=by
   rcases List.mem_cons.1 (p1.mem_iff.1 hyd) with k|k
   ·rw[hx,hy]at k;cases k
   ·exact k
  have Ox:=j7 (j7 h.d.gv x) y
  refine⟨0,((aE (aE s.1 x) y).1,(cZ s.1.2 (aK o),(bN (bN s.2 (x,dp s.1 x)) (y,dp s.1 y),()))),?_,?_⟩
  ·refine ax (fn:=Tryz.f155) (hG _ _ rfl) (by kernel_rfl) (by kernel_rfl) ((ZO _ _ _).trans ?_)
   refine aa (oK hG (aL s) (aK o) h.d.se (by show s.1.2.length≤_;omega)) ?_
   refine aQ ((dq (l:=s.1.2) h.d.se).trans hf) (ag rfl ?_)
   have agO:FX G 179 Ba ((aK o,()),())=some ((x,y,()),()):=by
    rw[hx,hy];exact ax (fn:=Tryz.f179) (hG _ _ rfl) (by kernel_rfl) (by kernel_rfl) (VX _ _ _)
   refine aa agO ?_
   refine ar (j:=0) (by kernel_rfl) ((J1 _ _ _).trans ?_)
   refine af rfl (af rfl (aa (a:=x) rfl ?_))
   refine aa (Wq hG (aL s) x h.d.rw hs hxd s.1.2) ?_
   refine aa (Ef hG (aL s) x (dp s.1 x) h.g (by show s.2.length≤_;omega)) ?_
   refine ar (j:=0) (by kernel_rfl) ((J1 _ _ _).trans ?_)
   refine af rfl (af rfl (aa (a:=y) rfl ?_))
   refine aa (Wq hG (s.1.1,(s.1.2,(bN s.2 (x,dp s.1 x),()))) y h.d.rw hs hyd s.1.2) ?_
   refine aa (Ef hG (s.1.1,(s.1.2,(bN s.2 (x,dp s.1 x),()))) y (dp s.1 y) g1.1 (by have:=g1.2;show(bN s.2 (x,dp s.1 x)).length≤_;omega)) ?_
   refine ar (j:=0) (by kernel_rfl) ((J1 _ _ _).trans ?_)
   refine ag rfl ?_
   generalize bN (bN s.2 (x,dp s.1 x)) (y,dp s.1 y)=gg
   obtain⟨k,v,hk,jL,hv⟩:=rC hxd
   refine ar (j:=1) (by kernel_rfl) ((J2 _ _ _).trans ?_)
   refine af rfl (af rfl (aa (a:=x) rfl ?_))
   refine aa (Eg hG (s.1.1,(s.1.2,(gg,()))) x h.d.rw hs.n hs.r hk jL) ?_
   refine tq rfl (af rfl (aa hk ?_))
   refine aa (RF hG v.2.1 x (h.d.rw.ring hv) (hs.r v hv)) ?_
   refine aa hk ?_
   have e1:s.1.1.set k (v.1,(cC v.2.1 x,v.2.2))=(aE s.1 x).1:=LN (w:=(s.1.1,(s.1.2,(gg,())))) h.d.rw hk jL s.1.2
   have E0:Sv (aE s.1 x).1:=by
    rw[j6 h.d.rw hv jL]
    exact hs.re _ (Nat.le_trans (Cb x) (hs.r v hv))
   obtain⟨k2,v2,oT,Tx,xT⟩:=rC agN
   have e2:(aE s.1 x).1.set k2 (v2.1,(cC v2.2.1 y,v2.2.2))=(aE (aE s.1 x) y).1:=LN (w:=((aE s.1 x).1,(s.1.2,(gg,())))) q1 oT Tx (aE s.1 x).2
   have rest:∀a:List ah,a=(aE s.1 x).1→LX G 155 A9 Tryz.f155 w7 (aN Tryz.prog 155 1) ((((b5 s.1.2 (aK o):Nat):Int),((2:Int),((1:Int),()))),(((a,(s.1.2,(gg,()))),()),([x,y],())))=some (((0:Int),()),(((aE (aE s.1 x) y).1,(cZ s.1.2 (aK o),(gg,()))),())):=by
    intro a ha
    subst ha
    refine ar (j:=1) (by kernel_rfl) ((J2 _ _ _).trans ?_)
    refine af rfl (af rfl (aa (a:=y) rfl ?_))
    refine aa (Eg hG ((aE s.1 x).1,(s.1.2,(gg,()))) y q1 E0.n E0.r oT Tx) ?_
    refine tq rfl (af rfl (aa oT ?_))
    refine aa (RF hG v2.2.1 y (q1.ring xT) (E0.r v2 xT)) ?_
    refine aa oT ?_
    have last:∀b:List ah,b=(aE (aE s.1 x) y).1→LX G 155 A9 Tryz.f155 w7 (aN Tryz.prog 155 1) ((((b5 s.1.2 (aK o):Nat):Int),((2:Int),((2:Int),()))),(((b,(s.1.2,(gg,()))),()),([x,y],())))=some (((0:Int),()),(((aE (aE s.1 x) y).1,(cZ s.1.2 (aK o),(gg,()))),())):=by
     intro b hb
     subst hb
     refine ar (j:=1) (by kernel_rfl) ((J2 _ _ _).trans ?_)
     obtain⟨d1,d2⟩:=Ih h.d.se hf (by omega)
     refine ag rfl (af d1 ?_)
     exact congrArg (fun l:List ai=>some (((0:Int),()),(((aE (aE s.1 x) y).1,(l,(gg,()))),()))) d2
    exact last _ e2
   exact rest _ e1
  ·rw[←hx,←hy]
   unfold aY
   rw[vO Ox]
   rfl
end Go.Vs
namespace Go.Vs
open Go.Proofs
variable {G:(f:FuncId)→(g:aM)→Option (g.A→Option g.B)}
theorem Kl{n:Int}(h0:0≤n)(h3:n≤3):cT .xor .i64 1 (cT .and .i64 n 1)=IntKind.wrap .i64 (1-Int.tmod n 2)∧kZ .i64 n 1=IntKind.wrap .i64 (Int.tdiv n 2):=by
 have:n=0∨n=1∨n=2∨n=3:=by omega
 rcases this with rfl|rfl|rfl|rfl<;>exact⟨by decide,by decide⟩
theorem Ii{l:List ah}{x:ae}(hw:Rw l){k:Nat}{v:ah}(hk:l[k]? = some v)(hx:x∈v.2.1)(y:ae)(e:List ai):l.set k (v.1,(jJ v.2.1 x y,v.2.2))=(aH (l,e) x y).1:=by
 rw[B5 (d:=(l,e)) hw y (List.mem_of_getElem? hk) hx]
 exact Kk hw.s hk _
theorem agP(hG:HG G)(s:StateT)(o:bj)(h:fX s)(hs:Sv s.1.1)(hm:bC o=0)(XT:o.1=5) :
    ∃(e:Int) (w:aW),FX G 156 zc ((o,()),(aL s,()))=some ((e,()),(w,()))∧ib e w=mo s o:=by
  have br:=h.d.ne;have TH:=h.d.nv
  obtain⟨m1,m2,m3,m4⟩:=sH hm XT
  obtain⟨s1,s2⟩:=Ic m3 m4
  obtain⟨c1,c2⟩:=Kl m3 m4
  have key:∀(e:Int) (w:aW),FX G 156 zc ((o,()),(aL s,()))=some ((e,()),(w,()))→ib e w=mo s o→∃(e:Int) (w:aW),FX G 156 zc ((o,()),(aL s,()))=some ((e,()),(w,()))∧ib e w=mo s o:=fun e w a b=>⟨e,w,a,b⟩
  have start:∀(e:Int) (w:aW),bX 156 zc Tryz.f156 (FX G) (LX G 156 zc Tryz.f156) ((o,()),(aL s,()))=some ((e,()),(w,()))→FX G 156 zc ((o,()),(aL s,()))=some ((e,()),(w,())):=fun e w a =>
    ax (fn:=Tryz.f156) (hG _ _ rfl) (by kernel_rfl) (by kernel_rfl) a
  unfold mo
  cases hf:(aT s.1.2 (aK o)).isSome with
  |false =>
    refine⟨13,aL s,start _ _ ((Ud _ _ _).trans ?_),?_⟩
    · refine aa (oK hG (aL s) (aK o) h.d.se (by show s.1.2.length≤_;omega)) ?_
      refine aa (ql hG (aL s) (dM o) h.d.sv (by show s.1.1.length≤_;omega)) ?_
      refine aa (oK hG (aL s) (av o) h.d.se (by show s.1.2.length≤_;omega)) ?_
      exact aQ ((dq (l:=s.1.2) h.d.se).trans hf) rfl
    · rw[if_pos (show(cI s.1 (aK o)).isSome=false from hf)];rfl
  |true =>
  rw[if_neg (show ¬(cI s.1 (aK o)).isSome=false by show ¬(aT s.1.2 (aK o)).isSome=false;rw[hf];simp)]
  cases TY:(aX s.1.1 (dM o)).isSome with
  |true =>
    refine⟨12,aL s,start _ _ ((Ud _ _ _).trans ?_),?_⟩
    · refine aa (oK hG (aL s) (aK o) h.d.se (by show s.1.2.length≤_;omega)) ?_
      refine aa (ql hG (aL s) (dM o) h.d.sv (by show s.1.1.length≤_;omega)) ?_
      refine aa (oK hG (aL s) (av o) h.d.se (by show s.1.2.length≤_;omega)) ?_
      refine aQ ((dq (l:=s.1.2) h.d.se).trans hf) (ag rfl ?_)
      exact af ((fM (l:=s.1.1) h.d.sv).trans TY) rfl
    · rw[if_pos (show(aR s.1 (dM o)).isSome=true from TY)];rfl
  |false =>
  rw[if_neg (show ¬(aR s.1 (dM o)).isSome=true by show ¬(aX s.1.1 (dM o)).isSome=true;rw[TY];simp)]
  cases Ui:(aT s.1.2 (av o)).isSome with
  |true =>
    refine⟨12,aL s,start _ _ ((Ud _ _ _).trans ?_),?_⟩
    · refine aa (oK hG (aL s) (aK o) h.d.se (by show s.1.2.length≤_;omega)) ?_
      refine aa (ql hG (aL s) (dM o) h.d.sv (by show s.1.1.length≤_;omega)) ?_
      refine aa (oK hG (aL s) (av o) h.d.se (by show s.1.2.length≤_;omega)) ?_
      refine aQ ((dq (l:=s.1.2) h.d.se).trans hf) (ag rfl ?_)
      refine ag ((fM (l:=s.1.1) h.d.sv).trans TY) ?_
      exact af ((dq (l:=s.1.2) h.d.se).trans Ui) rfl
    · rw[if_pos (show(cI s.1 (av o)).isSome=true from Ui)];rfl
  |false =>
  rw[if_neg (show ¬(cI s.1 (av o)).isSome=true by show ¬(aT s.1.2 (av o)).isSome=true;rw[Ui];simp)]
  have agQ:aX s.1.1 (dM o)=none:=by simpa using TY
  have agR:aT s.1.2 (av o)=none:=by simpa using Ui
  obtain⟨m,Oj⟩:∃m:ae,m=Ja o:=⟨_,rfl⟩
  obtain⟨kk,TN⟩:∃m:ae,m=Gb o:=⟨_,rfl⟩
  have hmd:m∈au s.1.1:=by rw[Oj];exact h.d.kS hf s1
  have I8:aq kk∉au s.1.1:=by rw[TN];exact h.d.zP agR _
  obtain⟨p1,q1⟩:=pX h.d.rw hmd I8
  have oT:kk.2=0∨kk.2=1:=by rw[TN];exact s2
  obtain⟨k,v,hk,jL,hv⟩:=rC hmd
  have e1:s.1.1.set k (v.1,(jJ v.2.1 m (aq kk),v.2.2))=(aH s.1 m (aq kk)).1:=Ii h.d.rw hk jL _ s.1.2
  have hlen:(aH s.1 m (aq kk)).1.length=s.1.1.length:=by unfold aH;exact fB _ _ _
  have UF:aX (aH s.1 m (aq kk)).1 (dM o)=none:=by
    unfold aH Vs.cc
    rw[oJ (ry _ _),agQ];rfl
  have eM:((aK o,cT .xor .i64 1 (cT .and .i64 (oN o) 1)):ae)=m:=by rw[Oj,c1];rfl
  have eK:((av o,kZ .i64 (oN o) 1):ae)=kk:=by rw[TN,c2];rfl
  have go:∀(e:Int) (w:aW),(∀a:List ah,a=(aH s.1 m (aq kk)).1→((FX G 152 Hi (((dM o,(cw [m,kk],(e0,(0:Int)))),()),((a,(s.1.2,(s.2,()))),()))).bind fun(mG:((Int×Unit)×(aW×Unit))) =>
       cond (mG.1.1 != (0:Int))
        (some (mG.1,((mG.2.1.1,(mG.2.1.2.1,mG.2.1.2.2)),())))
        ((FX G 178 yv ((av o,()),((mG.2.1.1,(mG.2.1.2.1,mG.2.1.2.2)),()))).bind fun(qj:((Int×Unit)×(aW×Unit))) =>
        some (qj.1,((qj.2.1.1,(qj.2.1.2.1,qj.2.1.2.2)),()))))=some ((e,()),(w,())))→FX G 156 zc ((o,()),(aL s,()))=some ((e,()),(w,())):=fun e w rest=>by
    refine start _ _ ((Ud _ _ _).trans ?_)
    refine aa (oK hG (aL s) (aK o) h.d.se (by show s.1.2.length≤_;omega)) ?_
    refine aa (ql hG (aL s) (dM o) h.d.sv (by show s.1.1.length≤_;omega)) ?_
    refine aa (oK hG (aL s) (av o) h.d.se (by show s.1.2.length≤_;omega)) ?_
    refine aQ ((dq (l:=s.1.2) h.d.se).trans hf) (ag rfl ?_)
    refine ag ((fM (l:=s.1.1) h.d.sv).trans TY) ?_
    refine ag ((dq (l:=s.1.2) h.d.se).trans Ui) ?_
    refine ag rfl ?_
    have body:∀mm k2:ae,mm=m→k2=kk→((FX G 185 l8 ((mm,()),(aL s,()))).bind fun(y4:(((Option ((Fin 1)×Nat))×Unit)×(aW×Unit))) =>
      qF y4.1.1
       (none) fun(p5:((Fin 1)×Nat)) =>
      cond (p5.1.val==0)
       (((y4.2.1.1)[p5.2]?).bind fun(y6:ah) =>
       (FX G 188 ow ((k2,()),())).bind fun(y7:((ae×Unit)×Unit)) =>
       (FX G 187 th ((y6.2.1,(mm,((y7.1.1.1,y7.1.1.2),()))),())).bind fun(y8:(((List ae)×Unit)×Unit)) =>
       ((y4.2.1.1)[p5.2]?).bind fun(y9:ah) =>
       (FX G 169 ri (([mm,k2],()),())).bind fun(qi:(((List ae)×Unit)×Unit)) =>
       (FX G 152 Hi (((dM o,(qi.1.1,((⟨#[]⟩:ByteArray),(0:Int)))),()),(((List.set y4.2.1.1 p5.2 (y9.1,(y8.1.1,y9.2.2))),(y4.2.1.2.1,y4.2.1.2.2)),()))).bind fun(mG:((Int×Unit)×(aW×Unit))) =>
       cond (mG.1.1 != (0:Int))
        (some (mG.1,((mG.2.1.1,(mG.2.1.2.1,mG.2.1.2.2)),())))
        ((FX G 178 yv ((av o,()),((mG.2.1.1,(mG.2.1.2.1,mG.2.1.2.2)),()))).bind fun(qj:((Int×Unit)×(aW×Unit))) =>
        some (qj.1,((qj.2.1.1,(qj.2.1.2.1,qj.2.1.2.2)),()))))
       (none))=some ((e,()),(w,())):=by
      intro mm k2 agS agT
      subst agS agT
      refine aa (Eg hG (aL s) mm h.d.rw hs.n hs.r hk jL) ?_
      refine tq rfl (af rfl (aa hk ?_))
      refine aa (Ig (hG _ _ rfl) k2 oT) ?_
      refine aa (Wn hG v.2.1 mm (aq k2) (hs.r v hv)) ?_
      refine aa hk ?_
      refine aa (D8 hG [mm,k2] (by simp)) ?_
      exact rest _ e1
    exact body _ _ eM eK
  have agU:24≤s.1.1.length→qm ((aH s.1 m (aq kk)).1,(s.1.2,(s.2,()))) (dM o,(cw [m,kk],(e0,0)))=(3,((aH s.1 m (aq kk)).1,(s.1.2,(s.2,())))):=fun hb=>by
    unfold qm
    rw[if_neg (by rw[show aX ((aH s.1 m (aq kk)).1,(s.1.2,(s.2,()))).1 ((dM o,(cw [m,kk],(e0,0))):ah).1=none from UF];simp)]
    rw[if_pos (by show 24≤(aH s.1 m (aq kk)).1.length;omega)]
  have XU:¬24≤s.1.1.length→qm ((aH s.1 m (aq kk)).1,(s.1.2,(s.2,()))) (dM o,(cw [m,kk],(e0,0)))=(0,(eI (dM o,(cw [m,kk],(e0,0))) (aH s.1 m (aq kk)).1,(s.1.2,(s.2,())))):=fun hb=>by
    unfold qm
    rw[if_neg (by rw[show aX ((aH s.1 m (aq kk)).1,(s.1.2,(s.2,()))).1 ((dM o,(cw [m,kk],(e0,0))):ah).1=none from UF];simp)]
    rw[if_neg (by show ¬24≤(aH s.1 m (aq kk)).1.length;omega)]
  by_cases hb:24≤s.1.1.length
  · refine⟨3,((aH s.1 m (aq kk)).1,(s.1.2,(s.2,()))),go _ _ (fun a ha=>?_),?_⟩
    · subst ha
      refine aa (XP hG ((aH s.1 m (aq kk)).1,(s.1.2,(s.2,()))) (dM o,(cw [m,kk],(e0,0))) q1.s (by show(aH s.1 m (aq kk)).1.length≤_;omega)) ?_
      rw[agU hb]
      exact af rfl rfl
    · rw[if_pos hb];rfl
  rw[if_neg hb]
  have hE:tu (eI (dM o,(cw [m,kk],(e0,0))) (aH s.1 m (aq kk)).1,(s.1.2,(s.2,()))) (av o)=if 40≤s.1.2.length then(3,(eI (dM o,(cw [m,kk],(e0,0))) (aH s.1 m (aq kk)).1,(s.1.2,(s.2,())))) else(0,(eI (dM o,(cw [m,kk],(e0,0))) (aH s.1 m (aq kk)).1,(dy (av o,(e0,0)) s.1.2,(s.2,())))):=by
    unfold tu
    rw[if_neg (by show ¬(aT s.1.2 (av o)).isSome=true;rw[Ui];simp)]
  have fin:FX G 156 zc ((o,()),(aL s,()))=some (((tu (eI (dM o,(cw [m,kk],(e0,0))) (aH s.1 m (aq kk)).1,(s.1.2,(s.2,()))) (av o)).1,()),((tu (eI (dM o,(cw [m,kk],(e0,0))) (aH s.1 m (aq kk)).1,(s.1.2,(s.2,()))) (av o)).2,())):=by
    refine go _ _ (fun a ha=>?_)
    subst ha
    refine aa (XP hG ((aH s.1 m (aq kk)).1,(s.1.2,(s.2,()))) (dM o,(cw [m,kk],(e0,0))) q1.s (by show(aH s.1 m (aq kk)).1.length≤_;omega)) ?_
    rw[XU hb]
    refine ag rfl ?_
    exact aa (Wj hG (eI (dM o,(cw [m,kk],(e0,0))) (aH s.1 m (aq kk)).1,(s.1.2,(s.2,()))) (av o) h.d.se (by show s.1.2.length≤_;omega)) rfl
  rw[hE]at fin
  by_cases hb4:40≤s.1.2.length
  · rw[if_pos hb4]at fin ⊢
    exact⟨_,_,fin,rfl⟩
  · rw[if_neg hb4]at fin ⊢
    refine⟨_,_,fin,?_⟩
    rw[Oj,TN];rfl
theorem agV(hG:HG G)(s:StateT)(o:bj)(h:fX s)(hs:Sv s.1.1) :
    ∃(e:Int) (w:aW),FX G 157 rh ((o,()),(aL s,()))=some ((e,()),(w,()))∧ib e w=kf s o:=by
  have br:=h.d.ne;have TH:=h.d.nv;have hgn:=h.n
  have start:∀(e:Int) (w:aW),bX 157 rh Tryz.f157 (FX G) (LX G 157 rh Tryz.f157) ((o,()),(aL s,()))=some ((e,()),(w,()))→FX G 157 rh ((o,()),(aL s,()))=some ((e,()),(w,())):=fun e w a =>
    ax (fn:=Tryz.f157) (hG _ _ rfl) (by kernel_rfl) (by kernel_rfl) a
  unfold kf
  cases hf:aX s.1.1 (aK o) with
  |none =>
    refine⟨13,aL s,start _ _ ((ZP _ _ _).trans ?_),?_⟩
    · refine aa (ql hG (aL s) (aK o) h.d.sv (by show s.1.1.length≤_;omega)) ?_
      exact aQ ((fM (l:=s.1.1) h.d.sv).trans (by rw[hf])) rfl
    · rw[show aR s.1 (aK o)=none from hf];rfl
  |some v =>
  have hfs:(aX s.1.1 (aK o)).isSome=true:=by rw[hf];rfl
  have hv:=gO hf
  have hvi:=kI hf
  have nt:=di h.d.sv hf
  have aF:=(List.getElem?_eq_some_iff.1 nt).1
  have hgr:=h.d.rw
  have go:∀(e:Int) (w:aW),(cond ((((List.length v.2.1):Nat):Int) != (2:Int)) (some (((14:Int),()),(aL s,()))) _=some ((e,()),(w,())))→FX G 157 rh ((o,()),(aL s,()))=some ((e,()),(w,())):=fun e w rest=>by
    refine start _ _ ((ZP _ _ _).trans ?_)
    refine aa (ql hG (aL s) (aK o) h.d.sv (by show s.1.1.length≤_;omega)) ?_
    refine aQ ((fM (l:=s.1.1) h.d.sv).trans hfs) (ag rfl ?_)
    refine af (cW (fg _) (aZ aF)) (aa nt ?_)
    exact rest
  rw[show aR s.1 (aK o)=some v from hf]
  by_cases wx:v.2.1.length=2
  case neg =>
    refine⟨14,aL s,go _ _ (af (by rw[bne_iff_ne];omega) rfl),?_⟩
    show ib 14 (aL s)=(match v.2.1 with | [r0,r1]=>jB s o r0 r1|_=>(zS,(14,())))
    split
    · rename_i hr;rw[hr]at wx;exact absurd rfl wx
    · rfl
  obtain⟨r0,r1,hr⟩:∃r0 r1,v.2.1=[r0,r1]:=by
    match hq:v.2.1,wx with
    |[a,b],_=>exact⟨a,b,rfl⟩
  have DR:(((List.length v.2.1:Nat):Int) != (2:Int))=false:=by rw[wx];rfl
  have g0:ba v.2.1 (0:Int)=some r0:=by rw[hr];rfl
  have g1:ba v.2.1 (1:Int)=some r1:=by rw[hr];rfl
  show ∃(e:Int) (w:aW),FX G 157 rh ((o,()),(aL s,()))=some ((e,()),(w,()))∧ib e w=(match v.2.1 with | [r0,r1]=>jB s o r0 r1|_=>(zS,(14,())))
  rw[hr]
  show ∃(e:Int) (w:aW),FX G 157 rh ((o,()),(aL s,()))=some ((e,()),(w,()))∧ib e w=jB s o r0 r1
  unfold jB
  by_cases YQ:r0.1=r1.1
  · refine⟨14,aL s,go _ _ (ag DR (aa g0 (aa g1 (af ((jc r0.1 r1.1).trans (decide_eq_true YQ)) rfl)))),?_⟩
    rw[if_pos YQ];rfl
  rw[if_neg YQ]
  have b01:=(jc r0.1 r1.1).trans (decide_eq_false YQ)
  have tail:∀a b:ae,v.2.1.Perm [a,b]→a.1≠b.1→((FX G 188 ow ((b,()),())).bind fun(y7:((ae×Unit)×Unit)) =>
        cond (jG s.1.1 ((bG s.1.1 (aK o):Nat):Int) (IntKind.wrap .i64 (((bG s.1.1 (aK o):Nat):Int)+(1:Int))))
         ((FX G 185 l8 (((y7.1.1.1,y7.1.1.2),()),(((dw s.1.1 ((bG s.1.1 (aK o):Nat):Int) (IntKind.wrap .i64 (((bG s.1.1 (aK o):Nat):Int)+(1:Int)))),(s.1.2,(s.2,()))),()))).bind fun(y8:(((Option ((Fin 1)×Nat))×Unit)×(aW×Unit))) =>
         qF y8.1.1
          (none) fun(p9:((Fin 1)×Nat)) =>
         cond (p9.1.val==0)
          (((y8.2.1.1)[p9.2]?).bind fun(qi:ah) =>
          (FX G 187 th ((qi.2.1,((y7.1.1.1,y7.1.1.2),(a,()))),())).bind fun(mG:(((List ae)×Unit)×Unit)) =>
          ((y8.2.1.1)[p9.2]?).bind fun(qj:ah) =>
          (FX G 182 mV ((b.1,()),(((List.set y8.2.1.1 p9.2 (qj.1,(mG.1.1,qj.2.2))),(y8.2.1.2.1,y8.2.1.2.2)),()))).bind fun(lf:((Int×(Bool×Unit))×(aW×Unit))) =>
          cond (jG lf.2.1.2.1 lf.1.1 (IntKind.wrap .i64 (lf.1.1+(1:Int))))
           (LX G 157 rh Tryz.f157 nG (aN Tryz.prog 157 0) (((0:Int),()),(((lf.2.1.1,((dw lf.2.1.2.1 lf.1.1 (IntKind.wrap .i64 (lf.1.1+(1:Int)))),lf.2.1.2.2)),((a,()),((b,()),(((y7.1.1.1,y7.1.1.2),()),())))),())))
           (none))
          (none))
         (none))=some (((0:Int),()),(((Kc s o a b).1,((Kc s o a b).2,(H5 s.2 a b,()))),())):=by
    intro a b hp nP
    obtain⟨p,q,h1,_,h2,_⟩:=rB h.d.sv hv
    have pd:(au s.1.1).Perm (a::b::au (p++q)):=by
      have:=(iS p q v).trans (List.Perm.append_right _ hp)
      rw[←h1]at this;exact this
    have LO:dC s.1.1 (aK o)=p++q:=by rw[←hvi];exact h2
    have NH:aY s.1 (aK o) zI=(p++q,s.1.2):=by unfold aY;rw[LO,vN h.d.ge]
    have DE:=pd.nodup_iff.1 hgr.n
    have hbm:b∈ends s.1.2:=h.d.pd.mem_iff.1 (pd.mem_iff.2 (by simp))
    obtain⟨e,he,Zu,zm⟩:=cP.1 hbm
    have zw:(aT s.1.2 b.1).isSome=true:=by
      unfold aT;rw[List.find?_isSome];exact⟨e,he,by simpa using Zu⟩
    obtain⟨_,ho⟩:=iW zm
    have XR:aq b∈au (p++q):=by
      have h3:aq b∈au s.1.1:=h.d.kS (s:=(aq b).2) zw (by rcases ho with⟨_,k⟩|⟨_,k⟩<;>omega)
      rcases List.mem_cons.1 (pd.mem_iff.1 h3) with k|k
      · exact absurd (congrArg Prod.fst k) (fun k=>nP k.symm)
      rcases List.mem_cons.1 k with k|k
      · have:=congrArg Prod.snd k;omega
      · exact k
    have UG:Rw (p++q):=⟨by rw[←h2];exact pU h.d.sv,(List.nodup_cons.1 (List.nodup_cons.1 DE).2).2⟩
    have bB:∀u∈p++q,u∈s.1.1:=fun u hu=>by
      rw[h1]
      rcases List.mem_append.1 hu with k|k
      · exact List.mem_append_left _ k
      · exact List.mem_append_right _ (List.mem_cons_of_mem _ k)
    have E0:Sv (p++q):=⟨by
      have:=hs.n;rw[h1]at this;simp at this ⊢;omega,fun u hu=>hs.r u (bB u hu)⟩
    obtain⟨dk1,dk2⟩:=RN h.d.sv hfs (by omega)
    rw[LO]at dk2
    obtain⟨k,u,hk,hxu,hu⟩:=rC XR
    have e1:(p++q).set k (u.1,(jJ u.2.1 (aq b) a,u.2.2))=(aH (p++q,s.1.2) (aq b) a).1:=Ii UG hk hxu _ s.1.2
    have Ox:∀w∈(aH (p++q,s.1.2) (aq b) a).1,GV w:=uk (d:=(p++q,s.1.2)) (fun w hw=>h.d.gv w (bB w hw)) _ _
    have eD:Kc s o a b=((aH (p++q,s.1.2) (aq b) a).1,cZ s.1.2 b.1):=by
      unfold Kc
      rw[NH]
      unfold aY
      rw[vO Ox];rfl
    have ga:=j8 h.g h.n ((b.1,0),qx a b 0)
    rw[eD]
    refine aa (Ig (hG _ _ rfl) b zm) ?_
    refine af dk1 ?_
    have r1:∀l1:List ah,l1=p++q→((FX G 185 l8 ((aq b,()),((l1,(s.1.2,(s.2,()))),()))).bind fun(y8:(((Option ((Fin 1)×Nat))×Unit)×(aW×Unit))) =>
         qF y8.1.1
          (none) fun(p9:((Fin 1)×Nat)) =>
         cond (p9.1.val==0)
          (((y8.2.1.1)[p9.2]?).bind fun(qi:ah) =>
          (FX G 187 th ((qi.2.1,(aq b,(a,()))),())).bind fun(mG:(((List ae)×Unit)×Unit)) =>
          ((y8.2.1.1)[p9.2]?).bind fun(qj:ah) =>
          (FX G 182 mV ((b.1,()),(((List.set y8.2.1.1 p9.2 (qj.1,(mG.1.1,qj.2.2))),(y8.2.1.2.1,y8.2.1.2.2)),()))).bind fun(lf:((Int×(Bool×Unit))×(aW×Unit))) =>
          cond (jG lf.2.1.2.1 lf.1.1 (IntKind.wrap .i64 (lf.1.1+(1:Int))))
           (LX G 157 rh Tryz.f157 nG (aN Tryz.prog 157 0) (((0:Int),()),(((lf.2.1.1,((dw lf.2.1.2.1 lf.1.1 (IntKind.wrap .i64 (lf.1.1+(1:Int)))),lf.2.1.2.2)),((a,()),((b,()),((aq b,()),())))),())))
           (none))
          (none))=some (((0:Int),()),(((aH (p++q,s.1.2) (aq b) a).1,(cZ s.1.2 b.1,(H5 s.2 a b,()))),())):=by
      intro l1 hl1
      subst hl1
      refine aa (Eg hG (p++q,(s.1.2,(s.2,()))) (aq b) UG E0.n E0.r hk hxu) ?_
      refine tq rfl (af rfl (aa hk ?_))
      refine aa (Wn hG u.2.1 (aq b) a (E0.r u hu)) ?_
      refine aa hk ?_
      have r2:∀l2:List ah,l2=(aH (p++q,s.1.2) (aq b) a).1→((FX G 182 mV ((b.1,()),((l2,(s.1.2,(s.2,()))),()))).bind fun(lf:((Int×(Bool×Unit))×(aW×Unit))) =>
          cond (jG lf.2.1.2.1 lf.1.1 (IntKind.wrap .i64 (lf.1.1+(1:Int))))
           (LX G 157 rh Tryz.f157 nG (aN Tryz.prog 157 0) (((0:Int),()),(((lf.2.1.1,((dw lf.2.1.2.1 lf.1.1 (IntKind.wrap .i64 (lf.1.1+(1:Int)))),lf.2.1.2.2)),((a,()),((b,()),((aq b,()),())))),())))
           (none))=some (((0:Int),()),(((aH (p++q,s.1.2) (aq b) a).1,(cZ s.1.2 b.1,(H5 s.2 a b,()))),())):=by
        intro l2 wx
        subst wx
        refine aa (oK hG ((aH (p++q,s.1.2) (aq b) a).1,(s.1.2,(s.2,()))) b.1 h.d.se (by show s.1.2.length≤_;omega)) ?_
        obtain⟨ek1,ek2⟩:=Ih h.d.se zw (by omega)
        refine af ek1 ?_
        have r3:∀l3:List ai,l3=cZ s.1.2 b.1→(LX G 157 rh Tryz.f157 nG (aN Tryz.prog 157 0) (((0:Int),()),((((aH (p++q,s.1.2) (aq b) a).1,(l3,(s.2,()))),((a,()),((b,()),((aq b,()),())))),())))=some (((0:Int),()),(((aH (p++q,s.1.2) (aq b) a).1,(cZ s.1.2 b.1,(H5 s.2 a b,()))),())):=by
          intro l3 hl3
          subst hl3
          have eb:b=(b.1,b.2):=rfl
          have eo:aq b=(b.1,(aq b).2):=rfl
          rcases ho with⟨BO,PO⟩|⟨Nl,ho0⟩
          · rw[BO]at eb;rw[PO]at eo
            have t0:qx a b 0=zD:=by unfold qx;rw[if_neg (by rw[eo];simp)]
            have t1:qx a b 1=a:=by unfold qx;rw[if_pos eo.symm]
            rw[t0,←eb]at ga
            have eG:H5 s.2 a b=bN (bN s.2 (b,zD)) (aq b,a):=by unfold H5;rw[t0,t1,←eb,←eo]
            rw[eG]
            refine ar (j:=0) (by kernel_rfl) ((xc _ _ _).trans ?_)
            refine af rfl (af (by show(b.2==(0:Int))=true;simp[BO]) ?_)
            refine aa (Ef hG ((aH (p++q,s.1.2) (aq b) a).1,(cZ s.1.2 b.1,(s.2,()))) b zD h.g (by show s.2.length≤_;omega)) ?_
            refine ar (j:=0) (by kernel_rfl) ((xc _ _ _).trans ?_)
            refine af rfl (ag (by show(b.2==(1:Int))=false;simp[BO]) ?_)
            refine aa (Ef hG ((aH (p++q,s.1.2) (aq b) a).1,(cZ s.1.2 b.1,(bN s.2 (b,zD),()))) (aq b) a ga.1 (by have:=ga.2;show(bN s.2 (b,zD)).length≤_;omega)) ?_
            refine ar (j:=0) (by kernel_rfl) ((xc _ _ _).trans ?_)
            exact ag rfl rfl
          · rw[Nl]at eb;rw[ho0]at eo
            have t0:qx a b 0=a:=by unfold qx;rw[if_pos eo.symm]
            have t1:qx a b 1=zD:=by unfold qx;rw[if_neg (by rw[eo];simp)]
            rw[t0,←eo]at ga
            have eG:H5 s.2 a b=bN (bN s.2 (aq b,a)) (b,zD):=by unfold H5;rw[t0,t1,←eb,←eo]
            rw[eG]
            refine ar (j:=0) (by kernel_rfl) ((xc _ _ _).trans ?_)
            refine af rfl (ag (by show(b.2==(0:Int))=false;simp[Nl]) ?_)
            refine aa (Ef hG ((aH (p++q,s.1.2) (aq b) a).1,(cZ s.1.2 b.1,(s.2,()))) (aq b) a h.g (by show s.2.length≤_;omega)) ?_
            refine ar (j:=0) (by kernel_rfl) ((xc _ _ _).trans ?_)
            refine af rfl (af (by show(b.2==(1:Int))=true;simp[Nl]) ?_)
            refine aa (Ef hG ((aH (p++q,s.1.2) (aq b) a).1,(cZ s.1.2 b.1,(bN s.2 (aq b,a),()))) b zD ga.1 (by have:=ga.2;show(bN s.2 (aq b,a)).length≤_;omega)) ?_
            refine ar (j:=0) (by kernel_rfl) ((xc _ _ _).trans ?_)
            exact ag rfl rfl
        exact r3 _ ek2
      exact r2 _ e1
    exact r1 _ dk2
  have bo:∀y:ae,((y.1.1==(av o).1)&&(y.1.2==(av o).2))=decide (y.1=av o):=fun y=>jc y.1 (av o)
  by_cases h0:r0.1=av o
  · rw[if_pos h0]
    refine⟨0,((Kc s o r1 r0).1,((Kc s o r1 r0).2,(H5 s.2 r1 r0,()))),go _ _ (ag DR (aa g0 (aa g1 (ag b01 (aa g0 (aa g1 (af ((bo r0).trans (decide_eq_true h0)) ?_))))))),rfl⟩
    refine aQ ((bo r0).trans (decide_eq_true h0)) (ag rfl ?_)
    exact tail r1 r0 (by rw[hr];exact List.Perm.swap _ _ _) (fun k=>YQ k.symm)
  rw[if_neg h0]
  by_cases h1:r1.1=av o
  · rw[if_pos h1]
    refine⟨0,((Kc s o r0 r1).1,((Kc s o r0 r1).2,(H5 s.2 r0 r1,()))),go _ _ (ag DR (aa g0 (aa g1 (ag b01 (aa g0 (aa g1 (ag ((bo r0).trans (decide_eq_false h0)) ?_))))))),rfl⟩
    refine aQ ((bo r1).trans (decide_eq_true h1)) (ag rfl ?_)
    exact tail r0 r1 (by rw[hr]) YQ
  rw[if_neg h1]
  refine⟨14,aL s,go _ _ (ag DR (aa g0 (aa g1 (ag b01 (aa g0 (aa g1 (ag ((bo r0).trans (decide_eq_false h0)) ?_))))))),rfl⟩
  exact aQ ((bo r1).trans (decide_eq_false h1)) (af rfl rfl)
end Go.Vs
namespace Go.Vs
open Go.Proofs
theorem Eh{row:List ae}(hn:row.Nodup){i j:Nat}{hi:i<row.length}{hj:j<row.length}(h:row[i]=row[j]):i=j:=by
 rcases Nat.lt_trichotomy i j with k|k|k
 ·exact absurd h (List.pairwise_iff_getElem.1 hn i j hi hj k)
 ·exact k
 ·exact absurd h.symm (List.pairwise_iff_getElem.1 hn j i hj hi k)
theorem Ei{row:List ae}(hn:row.Nodup){i j:Nat}{x:ae}(hi:row[i]? = some x)(hj:row[j]? = some x):i=j:=by
 obtain⟨h1,h2⟩:=List.getElem?_eq_some_iff.1 hi
 obtain⟨h3,h4⟩:=List.getElem?_eq_some_iff.1 hj
 exact Eh hn (h2.trans h4.symm)
theorem Ij(row:List ae):∃j,j≤row.length∧cw row=CM row j:=by
 by_cases h0:row.length=0
 ·have:row=[]:=by simpa using h0
  subst this;exact⟨0,by simp,rfl⟩
 ·exact⟨fG row row 0 0,Nat.le_of_lt (pS row row 0 0 (by omega) (by omega)),rfl⟩
theorem UH{row:List ae}(hn:row.Nodup){k:Nat}{x:ae}(hk:row[k]? = some x):idx x row 0=(k:Int):=by
 have:=Kf (d:=x) (row:=row) (k:=k) (i:=0) hk (fun j hj he=>by have:=Ei hn hk he;omega)
 omega
end Go.Vs
namespace Go.Vs
open Go.Proofs
variable {G:(f:FuncId)→(g:aM)→Option (g.A→Option g.B)}
theorem NJ(l:List ah)(x:ID):l.any (fun w=>decide (w.1=x))=(aX l x).isSome:=by
 rw[Bool.eq_iff_iff,List.any_eq_true];unfold aX;rw[List.find?_isSome]
theorem NK(l:List ai)(x:ID):l.any (fun w=>decide (w.1=x))=(aT l x).isSome:=by
 rw[Bool.eq_iff_iff,List.any_eq_true];unfold aT;rw[List.find?_isSome]
theorem NL(s:StateT)(o:bj):ib (ui (aL s) o).1 (ui (aL s) o).2=xg s o:=by
 unfold ui xg H4 FG
 rw[NJ,NK]
 by_cases ho:gD o=true
 ·have hv:s.1.1.map (jf o)=s.1.1:=by
   conv=>rhs;rw[←List.map_id s.1.1]
   exact List.map_congr_left fun u hu=>by unfold jf;rw[if_neg (by rw[ho];simp)];rfl
  rw[if_pos ho,ho,hv]
  show ib (if(aT s.1.2 (aK o)).isSome=true then _ else _:Int×aW).1 (if(aT s.1.2 (aK o)).isSome=true then _ else _:Int×aW).2=_
  cases (aT s.1.2 (aK o)).isSome<;>rfl
 ·have nu:gD o=false:=by simpa using ho
  have he:s.1.2.map (jZ o)=s.1.2:=by
   conv=>rhs;rw[←List.map_id s.1.2]
   exact List.map_congr_left fun u hu=>by unfold jZ;rw[if_neg (by rw[nu];simp)];rfl
  rw[if_neg ho,nu,he]
  show ib (if(aX s.1.1 (aK o)).isSome=true then _ else _:Int×aW).1 (if(aX s.1.1 (aK o)).isSome=true then _ else _:Int×aW).2=_
  cases (aX s.1.1 (aK o)).isSome<;>rfl
theorem RO(hG:HG G)(w:aW)(o:bj)(hk:7≤o.1)(hv:bY w.1)(he:dm w.2.1)(Ov:w.1.length≤50000000)(hle:w.2.1.length≤50000000) :
  FX G 131 A8 ((o,()),(w,()))=some (((ui w o).1,()),((ui w o).2,())):=by
 refine ax (fn:=Tryz.f131) (hG _ _ rfl) (by kernel_rfl) (by kernel_rfl) ((J0 _ _ _).trans ?_)
 have kn:∀k:Int,k<7→(o.1==k)=false:=fun k oT=>yK (by omega)
 refine ag (kn 1 (by omega)) (ag (kn 2 (by omega)) (ag (kn 3 (by omega)) (ag (kn 4 (by omega)) (ag (kn 5 (by omega)) (ag (kn 6 (by omega)) ?_)))))
 exact aa (agI hG w o hv he Ov hle) rfl
def Oy(x:ID)(e:Bool)(t:ByteArray):bj:=(7,(x,(zI,(zI,(zC,(zC,(e,(t,0))))))))
def RP(x:ID)(e:Bool)(n:Int):bj:=(8,(x,(zI,(zI,(zC,(zC,(e,(e0,n))))))))
theorem LP{x:ID}{e:Bool}{t:ByteArray}(hx:b4 x=true)(ht:ll t=true):bC (Oy x e t)=0:=by
 unfold bC
 rw[if_neg (by simp[Oy]),if_neg (by simp[Oy]),if_neg (by simp[Oy,hx]),if_neg,if_neg (by simp[Oy]),if_neg (by simp[Oy]),if_neg (by simp[Oy]),if_neg (by simp[Oy]),if_pos (show(Oy x e t).1=7 from rfl)]
 ·exact if_pos ht
 intro h
 have:qw (jz (Oy x e t)) CN=true:=(jA _ _).2 rfl
 rw[this]at h;cases h
theorem LQ{x:ID}{e:Bool}{n:Int}(hx:b4 x=true)(ht:jF n=true):bC (RP x e n)=0:=by
 unfold bC
 rw[if_neg (by simp[RP]),if_neg (by simp[RP]),if_neg (by simp[RP,hx]),if_neg,if_neg (by simp[RP]),if_neg (by simp[RP]),if_neg (by simp[RP]),if_pos (show(RP x e n).1=8 from rfl)]
 ·exact if_pos ht
 intro h
 have:qw (jz (RP x e n)) CN=true:=(jA _ _).2 rfl
 rw[this]at h;cases h
theorem NM{t:ByteArray}(h:ll t=true):t.size≤16:=by
 unfold ll at h
 simp only[Bool.and_eq_true,decide_eq_true_eq]at h
 exact h.2
theorem UI{n:Int}(h:jF n=true):BW n:=by
 unfold jF at h
 simp only[decide_eq_true_eq]at h
 unfold BW;omega
theorem qy:BW 0:=by unfold BW;omega
theorem LR{l:List ah}(hs:bY l){v w:ah}(hv:v∈l)(hw:w∈l)(h:w.1=v.1):w=v:=by
 have h1:=kJ hs hv
 have h2:=kJ hs hw
 rw[h,h1]at h2
 exact(Option.some.inj h2).symm
structure Lay(s t:StateT):Prop where
 v:bY t.1.1
 e:dm t.1.2
 sm:Sm t.1
 g:t.2.length≤50000000
end Go.Vs
namespace Go.Vs
open Go.Proofs
variable {G:(f:FuncId)→(g:aM)→Option (g.A→Option g.B)}
theorem Ik(l:List ai):(ends l).length=2*l.length:=by
 induction l with
 |nil=>rfl
 |cons e r ih=>rw[j5];simp[ih];omega
theorem UJ{l:List ah}{v:ah}(h:v∈l):v.2.1.length≤(au l).length:=by
 obtain⟨a,b,rfl⟩:=List.append_of_mem h
 rw[oL,iG];simp;omega
theorem Wf.um{d:aj}(h:Wf d):∀v∈d.1,v.2.1.length≤80:=fun v hv=>by
 have h1:=UJ hv
 have h2:=h.pd.length_eq
 have h3:=h.ne
 rw[Ik]at h2;omega
theorem Wf.sm{d:aj}(h:Wf d):Sm d:=⟨by have:=h.nv;omega,by have:=h.ne;omega,fun v hv=>by have:=h.um v hv;omega⟩
theorem Wf.small{d:aj}(h:Wf d):Sv d.1:=⟨by have:=h.nv;omega,fun v hv=>by have:=h.um v hv;omega⟩
theorem NO(s:StateT)(o:bj):ib (qm (aL s) (aK o,([],(e0,0)))).1 (qm (aL s) (aK o,([],(e0,0)))).2=qk s o:=by
 by_cases hh:(aX s.1.1 (aK o)).isSome=true
 ·have a:qm (aL s) (aK o,([],(e0,0)))=(12,aL s):=if_pos hh
  have b:qk s o=(zS,(12,())):=if_pos hh
  rw[a,b];rfl
 by_cases h:24≤s.1.1.length
 ·have a:qm (aL s) (aK o,([],(e0,0)))=(3,aL s):=(if_neg hh).trans (if_pos h)
  have b:qk s o=(zS,(3,())):=(if_neg hh).trans (if_pos h)
  rw[a,b];rfl
 ·have a:qm (aL s) (aK o,([],(e0,0)))=(0,(eI (aK o,([],(e0,0))) (aL s).1,(aL s).2)):=(if_neg hh).trans (if_neg h)
  have b:qk s o=(((eI (aK o,([],(e0,0))) s.1.1,s.1.2),s.2),(0,())):=(if_neg hh).trans (if_neg h)
  rw[a,b];rfl
theorem NP{s:StateT}(h:fX s)(o:bj):ib (D5 (aL s) (aK o)).1 (D5 (aL s) (aK o)).2=yJ s o:=by
 unfold D5 yJ aR
 show ib (match aX s.1.1 (aK o) with|none=>(13,aL s)|some v=>if 0<v.2.1.length then(14,aL s) else(0,(dC s.1.1 (aK o),(s.1.2,(s.2,())))):Int×aW).1 (match aX s.1.1 (aK o) with|none=>(13,aL s)|some v=>if 0<v.2.1.length then(14,aL s) else(0,(dC s.1.1 (aK o),(s.1.2,(s.2,())))):Int×aW).2=_
 cases aX s.1.1 (aK o) with
 |none=>rfl
 |some v =>
  simp only
  by_cases hl:0<v.2.1.length
  ·rw[if_pos hl,if_pos hl];rfl
  ·rw[if_neg hl,if_neg hl]
   unfold aY
   rw[vN h.d.ge];rfl
def RQ(s:StateT)(o:bj):StateT×(Int×Unit) :=
 if o.1=1 then qk s o else if o.1=2 then yJ s o else if o.1=3 then oH s o else if o.1=4 then Dd s o else if o.1=5 then mo s o else if o.1=6 then kf s o else xg s o
theorem NQ(s:StateT)(o:bj):fS s o=if bC o≠0 then(zS,(bC o,())) else RQ s o:=rfl
theorem RR(hG:HG G)(s:StateT)(o:bj)(h:fX s)(hm:bC o=0)(h3:o.1=3→∃(e:Int) (w:aW),FX G 154 ou ((o,()),(aL s,()))=some ((e,()),(w,()))∧ib e w=oH s o) :
  ∃(e:Int) (w:aW),FX G 131 A8 ((o,()),(aL s,()))=some ((e,()),(w,()))∧ib e w=RQ s o:=by
 have hk:=mu hm
 have UK:=h.d.small
 have TH:=h.d.nv;have br:=h.d.ne
 have start:∀(e:Int) (w:aW),bX 131 A8 Tryz.f131 (FX G) (LX G 131 A8 Tryz.f131) ((o,()),(aL s,()))=some ((e,()),(w,()))→FX G 131 A8 ((o,()),(aL s,()))=some ((e,()),(w,())):=fun e w a =>
  ax (fn:=Tryz.f131) (hG _ _ rfl) (by kernel_rfl) (by kernel_rfl) a
 unfold RQ
 by_cases h1:o.1=1
 ·rw[if_pos h1]
  refine⟨_,_,start _ _ ((J0 _ _ _).trans (af (Gc h1) (aa (XP hG (aL s) (aK o,([],(e0,0))) h.d.sv UK.n) rfl))),?_⟩
  exact NO s o
 rw[if_neg h1]
 by_cases h2:o.1=2
 ·rw[if_pos h2]
  refine⟨_,_,start _ _ ((J0 _ _ _).trans (ag (yK h1) (af (Gc h2) (aa (agB hG (aL s) o h.d.sv UK.n) rfl)))),?_⟩
  exact NP h o
 rw[if_neg h2]
 by_cases Ow:o.1=3
 ·rw[if_pos Ow]
  obtain⟨e,w,a,b⟩:=h3 Ow
  exact⟨e,w,start _ _ ((J0 _ _ _).trans (ag (yK h1) (ag (yK h2) (af (Gc Ow) (aa a rfl))))),b⟩
 rw[if_neg Ow]
 by_cases hk4:o.1=4
 ·rw[if_pos hk4]
  obtain⟨e,w,a,b⟩:=agL hG s o h UK
  exact⟨e,w,start _ _ ((J0 _ _ _).trans (ag (yK h1) (ag (yK h2) (ag (yK Ow) (af (Gc hk4) (aa a rfl)))))),b⟩
 rw[if_neg hk4]
 by_cases XT:o.1=5
 ·rw[if_pos XT]
  obtain⟨e,w,a,b⟩:=agP hG s o h UK hm XT
  exact⟨e,w,start _ _ ((J0 _ _ _).trans (ag (yK h1) (ag (yK h2) (ag (yK Ow) (ag (yK hk4) (af (Gc XT) (aa a rfl))))))),b⟩
 rw[if_neg XT]
 by_cases hk6:o.1=6
 ·rw[if_pos hk6]
  obtain⟨e,w,a,b⟩:=agV hG s o h UK
  exact⟨e,w,start _ _ ((J0 _ _ _).trans (ag (yK h1) (ag (yK h2) (ag (yK Ow) (ag (yK hk4) (ag (yK XT) (af (Gc hk6) (aa a rfl)))))))),b⟩
 rw[if_neg hk6]
 refine⟨_,_,RO hG (aL s) o (by omega) h.d.sv h.d.se UK.n (by show s.1.2.length≤_;omega),?_⟩
 exact NL s o
theorem RS(hG:HG G)(s:StateT)(o:bj)(h:fX s)(hf:Fit o)(h3:bC o=0→o.1=3→∃(e:Int) (w:aW),FX G 154 ou ((o,()),(aL s,()))=some ((e,()),(w,()))∧ib e w=oH s o) :
  FX G 73 M5 ((s,o,()),())=some (fS s o,()):=by
 rw[NQ]
 have hn:=h.n
 by_cases hm:bC o=0
 ·obtain⟨e,w,a,b⟩:=RR hG s o h hm (h3 hm)
  refine(UA hG s o (abH hG o hf) h.d.sm (by omega) (fun _=>a)).trans ?_
  rw[hm,if_neg (by simp),b];rfl
 ·rw[if_pos hm]
  refine ax (fn:=Tryz.f73) (hG _ _ rfl) (by kernel_rfl) (by kernel_rfl) ((ZN _ _ _).trans ?_)
  refine aa (abH hG o hf) ?_
  exact af (by simpa using hm) rfl
end Go.Vs
namespace Go.Vs
open Go.Proofs
variable {G:(f:FuncId)→(g:aM)→Option (g.A→Option g.B)}
def Cc(G:(f:FuncId)→(g:aM)→Option (g.A→Option g.B))(o:bj):Prop:=∀s,fX s→bC o=0→o.1=3→∃(e:Int) (w:aW),FX G 154 ou ((o,()),(aL s,()))=some ((e,()),(w,()))∧ib e w=oH s o
end Go.Vs
