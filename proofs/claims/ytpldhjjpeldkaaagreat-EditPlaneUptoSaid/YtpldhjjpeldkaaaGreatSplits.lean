/- Edges cut and split, vertices smoothed: what the program computes. -/
import Derived.Test.YtpldhjjpeldkaaaGreatFormed
import Derived.Test.YtpldhjjpeldkaaaGreatTop
set_option linter.unusedVariables false
set_option linter.unusedSimpArgs false
namespace Go.Vs
open Go.Proofs
variable {G:(f:FuncId)→(g:aL)→Option (g.A→Option g.B)}
theorem Ue(hG:HG G)(v:aM)(x:ae):FX G 155 Db ((v,x,()),())=some ((lU v.1 x,()),()):=by
 refine aC (fn:=Tryz.f155) (hG _ _ rfl) (by kernel_rfl) (by kernel_rfl) ((Y4 _ _ _).trans ?_)
 exact aa (Ua hG v.1 x) rfl
def dk(l:List aM)(x:ae):Nat:=l.countP fun v=>kd v.1 x
theorem E2(l:List aM)(x:ae):dk l x≤l.length:=List.countP_le_length
theorem wK{l:List aM}{x:ae}(h:∀v∈l,kd v.1 x=false):dk l x=0:=by
 unfold dk;rw [List.countP_eq_zero];intro v hv;simp [h v hv]
theorem Dy{x:ae}:∀{l:List aM},fX l→∀(k:Nat) (v:aM),l[k]? = some v→(kd v.1 x=true↔k<dk l x)
 | [],_,k,v,h=>by simp at h
 | w::r,hs,k,v,h=>by
  have hw:∀{u:aM},u∈r→kd w.1 u.1=true:=fun {u} hu=>List.rel_of_pairwise_cons hs hu
  have hr:fX r:=hs.of_cons
  by_cases aE:kd w.1 x=true
  ·have e:dk (w::r) x=dk r x+1:=by unfold dk;rw [List.countP_cons_of_pos (by simpa using aE)]
   cases k with
   | zero=>simp at h;subst h;simp [aE,e]
   | succ k=>have:=Dy (x:=x) hr k v (by simpa using h);rw [this,e];omega
  ·have hn:∀u∈w::r,kd u.1 x=false:=fun u hu=>by
    rcases List.mem_cons.1 hu with rfl | hu
    ·simpa using aE
    ·rw [Bool.eq_false_iff];intro h2;exact aE (fk (hw hu) h2)
   rw [wK hn,hn v (List.mem_of_getElem? h)]
   simp
theorem P4(hG:HG G)(l:List aM)(x:ae)(hs:fX l)(hl:l.length≤50000000):∀(n i j:Nat),j - i≤n→i≤dk l x→dk l x≤j→j≤l.length →
  LX G 156154 iY Tryz.f154 il (aX Tryz.prog 154 0) ((l,(((l.length:Nat):Int),((i:Int),((j:Int),())))),(((x,()),()),()))=some (((((dk l x:Nat):Int),(decide ((l[dk l x]?).map (·.1)=some x),())):Int×(Bool×Unit)),()):=by
 have sN:=E2 l x
 have fin:∀(i j:Nat),¬(i<j)→i≤dk l x→dk l x≤j→LX G 156154 iY Tryz.f154 il (aX Tryz.prog 154 0) ((l,(((l.length:Nat):Int),((i:Int),((j:Int),())))),(((x,()),()),()))=some (((((dk l x:Nat):Int),(decide ((l[dk l x]?).map (·.1)=some x),())):Int×(Bool×Unit)),()):=fun i j yu h1 h2=>by
  have hi:i=dk l x:=by omega
  subst hi
  refine aw (j:=0) (by kernel_rfl) ((A7 _ _ _).trans ?_)
  refine ag (decide_eq_false (show ¬(((dk l x:Nat):Int)<(j:Int)) by omega)) ?_
  by_cases hc:dk l x<l.length
  ·have hx:l[dk l x]? = some l[dk l x]:=List.getElem?_eq_getElem hc
   refine af (ba hc) ?_
   refine aa (aD hx) ?_
   refine aa (Ue hG l[dk l x] x) ?_
   refine congrArg (fun b:Bool=>some ((((dk l x:Nat):Int),(b,())),())) ?_
   rw [hx]
   unfold lU
   by_cases he:l[dk l x].1=x
   ·simp [he]
   ·simp [he];split<;>simp
  ·refine ag (decide_eq_false (show ¬(((dk l x:Nat):Int)<((l.length:Nat):Int)) by omega)) ?_
   refine congrArg (fun b:Bool=>some ((((dk l x:Nat):Int),(b,())),())) ?_
   rw [List.getElem?_eq_none (by omega)];simp
 intro n
 induction n with
 | zero=>intro i j yu h1 h2 h3;exact fin i j (by omega) h1 h2
 | succ n ih =>
  intro i j yu h1 h2 h3
  by_cases aE:i<j
  case neg=>exact fin i j aE h1 h2
  refine aw (j:=0) (by kernel_rfl) ((A7 _ _ _).trans ?_)
  refine af (decide_eq_true (show ((i:Int)<(j:Int)) by omega)) ?_
  refine ag rfl ?_
  have hm:=Jl (i:=i) (j:=j) (by omega) (by omega)
  have hh:(i+j) / 2<l.length:=by omega
  have hx:l[(i+j) / 2]? = some l[(i+j) / 2]:=List.getElem?_eq_getElem hh
  have ns:=Dy (x:=x) hs ((i+j) / 2) _ hx
  refine aa (show bh l (IntKind.wrap .i64 (kA .u64 (IntKind.wrap .u64 (IntKind.wrap .i64 ((i:Int)+(j:Int)))) (1:Int)))=some l[(i+j) / 2] by rw [hm];exact aD hx) ?_
  refine aa (Ue hG l[(i+j) / 2] x) ?_
  by_cases ho:kd l[(i+j) / 2].1 x=true
  ·refine af (decide_eq_true ((rr _ _).2 ho)) ?_
   have hc:=ns.1 ho
   have hw:IntKind.wrap .i64 (IntKind.wrap .i64 (kA .u64 (IntKind.wrap .u64 (IntKind.wrap .i64 ((i:Int)+(j:Int)))) (1:Int))+1)=(((i+j) / 2+1:Nat):Int):=by
    rw [hm];exact aO hh (by omega)
   have:=ih ((i+j) / 2+1) j (by omega) (by omega) h2 h3
   rw [←hw] at this
   exact this
  ·refine ag (decide_eq_false (fun h=>ho ((rr _ _).1 h))) ?_
   have hc:¬(i+j) / 2<dk l x:=fun h=>ho (ns.2 h)
   have:=ih i ((i+j) / 2) (by omega) h1 (by omega) (by omega)
   rw [←hm] at this
   exact this
theorem P5(hG:HG G)(l:List aM)(x:ae)(hs:fX l)(hl:l.length≤50000000) :
  FX G 156154 iY ((l,x,()),())=some (((((dk l x:Nat):Int),(decide ((l[dk l x]?).map (·.1)=some x),())):Int×(Bool×Unit)),()):=by
 refine aC (fn:=Tryz.f154) (hG _ _ rfl) (by kernel_rfl) (by kernel_rfl) ((Po _ _ _).trans ?_)
 exact P4 hG l x hs hl l.length 0 l.length (by omega) (by omega) (E2 l x) (Nat.le_refl _)
theorem Hm(g:aM):∀{l:List aM},fX l→pO g l=if (l[dk l g.1]?).map (·.1)=some g.1 then l.set (dk l g.1) g else l.take (dk l g.1)++(g::l.drop (dk l g.1))
 | [],_=>rfl
 | w::r,hs=>by
  have hw:∀{u:aM},u∈r→kd w.1 u.1=true:=fun {u} hu=>List.rel_of_pairwise_cons hs hu
  have hr:fX r:=List.Pairwise.of_cons hs
  by_cases aE:kd w.1 g.1=true
  ·have e:dk (w::r) g.1=dk r g.1+1:=by unfold dk;rw [List.countP_cons_of_pos (by simpa using aE)]
   have bc:w.1≠g.1:=fun k=>by rw [k,dB] at aE;cases aE
   have qe:¬lU g.1 w.1≤0:=fun k=>by
    rcases oW.1 k with k | k
    ·exact bc k.symm
    ·have:=fk aE k;rw [dB] at this;cases this
   have ih:=Hm g hr
   rw [e,pO,if_neg qe,if_pos bc,ih]
   simp only [List.getElem?_cons_succ,List.set_cons_succ,List.take_succ_cons,List.drop_succ_cons,List.cons_append]
   split<;>rfl
  ·have hn:∀u∈w::r,kd u.1 g.1=false:=fun u hu=>by
    rcases List.mem_cons.1 hu with rfl | hu
    ·simpa using aE
    ·rw [Bool.eq_false_iff];intro h2;exact aE (fk (hw hu) h2)
   rw [wK hn]
   by_cases he:w.1=g.1
   ·have VV:lU g.1 w.1≤0:=oW.2 (.inl he.symm)
    have h1:rR g (w::r)=r:=by
     have:rR g (w::r)=rR g r:=by unfold rR;rw [List.filter_cons_of_neg (by simp [he])]
     rw [this]
     exact rD (fun q hq k=>by have:=hw hq;rw [k,he,dB] at this;cases this)
    rw [pO,if_pos VV,h1,if_pos (by simp [he])];rfl
   ·have El:kd g.1 w.1=true:=wG (by simpa using aE) he
    have VV:lU g.1 w.1≤0:=oW.2 (.inr El)
    have h1:rR g (w::r)=w::r:=rD (fun q hq k=>by
     rcases List.mem_cons.1 hq with rfl | hq
     ·exact he k
     ·have:=fk El (hw hq);rw [k,dB] at this;cases this)
    rw [pO,if_pos VV,h1,if_neg (by simp [he])];rfl
theorem Dz{x:ae}:∀{l:List aM},fX l→(lD l x).isSome=decide ((l[dk l x]?).map (·.1)=some x)
 | [],_=>rfl
 | w::r,hs=>by
  have hw:∀{u:aM},u∈r→kd w.1 u.1=true:=fun {u} hu=>List.rel_of_pairwise_cons hs hu
  have hr:fX r:=List.Pairwise.of_cons hs
  rw [oX]
  by_cases aE:kd w.1 x=true
  ·have e:dk (w::r) x=dk r x+1:=by unfold dk;rw [List.countP_cons_of_pos (by simpa using aE)]
   have bc:w.1≠x:=fun k=>by rw [k,dB] at aE;cases aE
   rw [e,if_neg bc,Dz hr,List.getElem?_cons_succ]
  ·have hn:∀u∈w::r,kd u.1 x=false:=fun u hu=>by
    rcases List.mem_cons.1 hu with rfl | hu
    ·simpa using aE
    ·rw [Bool.eq_false_iff];intro h2;exact aE (fk (hw hu) h2)
   rw [wK hn]
   by_cases he:w.1=x
   ·simp [he]
   ·have El:kd x w.1=true:=wG (by simpa using aE) he
    have:lD r x=none:=by
     unfold lD
     have:(List.find? (fun q=>decide (q.1=x)) r)=none:=by
      rw [List.find?_eq_none];intro q hq k
      have k:q.1=x:=by simpa using k
      have:=fk El (hw hq);rw [k,dB] at this;cases this
     rw [this];rfl
    rw [if_neg he,this];simp [he]
theorem ZW(hG:HG G)(l:List aM)(g:aM)(hs:fX l)(hl:l.length≤50000000):FX G 139 GB ((l,g,()),())=some ((bU l g,()),()):=by
 refine aC (fn:=Tryz.f139) (hG _ _ rfl) (by kernel_rfl) (by kernel_rfl) ((YU _ _ _).trans ?_)
 refine aa (P5 hG l g.1 hs hl) ?_
 refine aa (Su (hG _ _ rfl) l hl) ?_
 unfold bU
 rw [Dz hs,Hm g hs]
 have hc:dk l g.1≤l.length:=E2 l g.1
 by_cases h:(l[dk l g.1]?).map (·.1)=some g.1
 ·rw [decide_eq_true h,if_neg (fun k=>by cases k.1),if_pos h]
  refine af rfl ?_
  obtain ⟨u,hu,_⟩:∃u,l[dk l g.1]? = some u∧u.1=g.1:=by
   cases hq:l[dk l g.1]? with
   | none=>rw [hq] at h;cases h
   | some u=>rw [hq] at h;exact ⟨u,rfl,by simpa using h⟩
  have aE:=(List.getElem?_eq_some_iff.1 hu).1
  refine af (dM (jf _) (ba aE)) ?_
  exact aa hu rfl
 ·rw [decide_eq_false h,if_neg h]
  refine ag rfl ?_
  by_cases h4:400≤l.length
  ·rw [if_pos ⟨rfl,h4⟩]
   exact ag (decide_eq_false (show ¬((l.length:Nat):Int)<400 by omega)) rfl
  ·rw [if_neg (fun k=>h4 k.2)]
   refine af (decide_eq_true (show ((l.length:Nat):Int)<400 by omega)) ?_
   have lN:pX l ((dk l g.1:Nat):Int) [g]=true:=by
    unfold pX
    rw [decide_eq_true (show (0:Int)≤((dk l g.1:Nat):Int) by omega),decide_eq_true (show ((dk l g.1:Nat):Int)≤((l.length:Nat):Int) by omega)]
    rw [fits (by simp;omega)];rfl
   refine af lN ?_
   have e:fL l ((dk l g.1:Nat):Int) [g]=l.take (dk l g.1)++(g::l.drop (dk l g.1)):=by unfold fL;simp
   exact congrArg (fun r:List aM=>some ((r,()),())) e
theorem DA(hG:HG G)(w:aG)(x to:ae)(hs:fX w.2.2.1)(hl:w.2.2.1.length≤50000000):FX G 116 Az ((x,to,()),(w,()))=some ((),((w.1,(w.2.1,(bU w.2.2.1 (x,to),()))),())):=by
 refine aC (fn:=Tryz.f116) (hG _ _ rfl) (by kernel_rfl) (by kernel_rfl) ((YD _ _ _).trans ?_)
 exact aa (ZW hG w.2.2.1 (x,to) hs hl) rfl
theorem DB(hG:HG G)(w:aG)(x:ae)(hw:Rw w.1)(hl:w.1.length≤50000000)(hr:∀v∈w.1,v.2.1.length≤50000000){k:Nat}{v:aj}(hk:w.1[k]? = some v)(hx:x∈v.2.1) :
  FX G 118 lu ((x,()),(w,()))=some (((some ((⟨0,by decide⟩:Fin 1),k)),()),(w,())):=by
 refine aC (fn:=Tryz.f118) (hG _ _ rfl) (by kernel_rfl) (by kernel_rfl) ((YF _ _ _).trans ?_)
 have UE:=(List.getElem?_eq_some_iff.1 hk).1
 have loop:∀(n i:Nat),i+n=k→LX G 118 lu Tryz.f118 uz (aX Tryz.prog 118 0) ((((w.1.length:Nat):Int),((i:Int),())),((w,((x,()),())),()))=some (((some ((⟨0,by decide⟩:Fin 1),k)),()),(w,())):=by
  intro n
  induction n with
  | zero =>
   intro i hi
   have hi:i=k:=by omega
   subst hi
   refine aw (j:=0) (by kernel_rfl) ((Km _ _ _).trans ?_)
   refine af (ba UE) (af (dM (jf _) (ba UE)) (aa hk ?_))
   refine aa (Dn hG v.2.1 x (by have:=hr v (List.mem_of_getElem? hk);omega)) ?_
   exact af (decide_eq_true hx) rfl
  | succ n ih =>
   intro i hi
   have mP:i<w.1.length:=by omega
   have hu:w.1[i]? = some w.1[i]:=List.getElem?_eq_getElem mP
   have C0:x∉w.1[i].2.1:=fun hxi=>by
    have h1:w.1[i]=v:=hw.one (List.mem_of_getElem? hk) (List.getElem_mem mP) hx hxi
    have h2:=jI hw.s hk rfl
    have h3:=jI hw.s (x:=v.1) hu (by rw [h1])
    omega
   refine aw (j:=0) (by kernel_rfl) ((Km _ _ _).trans ?_)
   refine af (ba mP) (af (dM (jf _) (ba mP)) (aa hu ?_))
   refine aa (Dn hG w.1[i].2.1 x (by have:=hr _ (List.getElem_mem mP);omega)) ?_
   refine ag (decide_eq_false C0) ?_
   have:=ih (i+1) (by omega)
   rw [←aO mP (by omega)] at this
   exact this
 exact loop k 0 (by omega)
theorem Jt{l:List aj}{k:Nat}{v:aj}(hs:bT l)(hk:l[k]? = some v)(r:List ae):l.set k (v.1,(r,v.2.2))=l.map (wu v.1 r):=by
 have h:=jh hs (List.mem_of_getElem? hk)
 rw [jI hs hk rfl]
 refine (Hg hs h (wu v.1 r) (fun u=>(u.1,(r,u.2.2))) (fun u hu => ?_) (fun u hu => ?_)).symm
 ·unfold wu;rw [if_pos hu]
 ·unfold wu;rw [if_neg hu]
theorem qE{l:List aj}{x:ae}(h:x∈an l):∃(k:Nat) (v:aj),l[k]? = some v∧x∈v.2.1∧v∈l:=by
 obtain ⟨v,hv,hx⟩:=aV.1 h
 obtain ⟨k,hk,he⟩:=List.getElem_of_mem hv
 exact ⟨k,v,by rw [List.getElem?_eq_getElem hk,he],hx,hv⟩
structure Sv(l:List aj):Prop where
 n:l.length≤50000000
 r:∀v∈l,v.2.1.length≤50000000
theorem P6{n:Int}(h:n=0∨n=1):eI .xor .i64 n 1=IntKind.wrap .i64 (1 - n):=by
 rcases h with rfl | rfl<;>decide
theorem Ho(hG:G 122 nC=none)(x:ae)(h:x.2=0∨x.2=1):FX G 122 nC ((x,()),())=some ((ah x,()),()):=by
 refine aC (fn:=Tryz.f122) hG (by kernel_rfl) (by kernel_rfl) ((YI _ _ _).trans ?_)
 exact congrArg (fun n:Int=>some ((((x.1,n):ae),()),())) (P6 h)
theorem ME{d:ai}(h:Rw d.1){v:aj}{x:ae}(hv:v∈d.1)(hx:x∈v.2.1):eW d x=if (lC v.2.1 x).1=x.1 then (if (lC v.2.1 (lC v.2.1 x)).1=x.1 then zD else lC v.2.1 (lC v.2.1 x)) else lC v.2.1 x:=by
 unfold eW
 have e:cv d ((cS d x).getD zI)=v.2.1:=by
  unfold cS;rw [dN h hv hx];exact jL h.s hv
 simp only [e]
 by_cases h1:(lC v.2.1 x).1=x.1
 ·simp only [if_pos h1]
 ·simp only [if_neg h1]
theorem Uf(hG:HG G)(w:aG)(x:ae)(hw:Rw w.1)(hs:Sv w.1)(hx:x∈an w.1)(e:List au):FX G 117 AA ((x,()),(w,()))=some ((eW (w.1,e) x,()),(w,())):=by
 obtain ⟨k,v,hk,kr,hv⟩:=qE hx
 have Ot:=hs.r v hv
 refine aC (fn:=Tryz.f117) (hG _ _ rfl) (by kernel_rfl) (by kernel_rfl) ((YE _ _ _).trans ?_)
 rw [ME (d:=(w.1,e)) hw hv kr]
 have prev:∀y:ae,FX G 140 C9 ((v.2.1,y,()),())=some (((lC v.2.1 y),((KI (fa v.2.1 y (v.2.1.length - 1))).2)),()):=fun y=>by
  refine (ZU hG v.2.1 y (by omega)).trans ?_
  have:(KI (fa v.2.1 y (v.2.1.length - 1))).1=lC v.2.1 y:=KK _
  rw [←this]
 have lV:∀y:ae,((y.1.1==x.1.1)&&(y.1.2==x.1.2))=decide (y.1=x.1):=fun y=>wq y.1 x.1
 refine aw (j:=0) (by kernel_rfl) ((EG _ _ _).trans ?_)
 refine af rfl (aa (DB hG w x hw hs.n hs.r hk kr) ?_)
 refine sB rfl (af rfl (aa hk ?_))
 refine aa (prev x) ?_
 by_cases h1:(lC v.2.1 x).1=x.1
 ·rw [if_pos h1]
  refine aJ ((lV _).trans (decide_eq_true h1)) ?_
  refine aw (j:=0) (by kernel_rfl) ((EG _ _ _).trans ?_)
  refine af rfl (aa (DB hG w x hw hs.n hs.r hk kr) ?_)
  refine sB rfl (af rfl (aa hk ?_))
  refine aa (prev (lC v.2.1 x)) ?_
  by_cases h2:(lC v.2.1 (lC v.2.1 x)).1=x.1
  ·rw [if_pos h2]
   refine aJ ((lV _).trans (decide_eq_true h2)) ?_
   refine aw (j:=0) (by kernel_rfl) ((EG _ _ _).trans ?_)
   exact ag rfl rfl
  ·rw [if_neg h2]
   exact aJ ((lV _).trans (decide_eq_false h2)) rfl
 ·rw [if_neg h1]
  exact aJ ((lV _).trans (decide_eq_false h1)) rfl
theorem Hq{l:List au}{x:ID}(hs:c9 l)(h:(aU l x).isSome=true)(hl:l.length≤50000000) :
  jo l ((b4 l x:Nat):Int) (IntKind.wrap .i64 (((b4 l x:Nat):Int)+1))=true∧dg l ((b4 l x:Nat):Int) (IntKind.wrap .i64 (((b4 l x:Nat):Int)+1))=dS l x:=by
 obtain ⟨e,he⟩:=Option.isSome_iff_exists.1 h
 have aE:=(List.getElem?_eq_some_iff.1 (lI hs he)).1
 have hw:IntKind.wrap .i64 (((b4 l x:Nat):Int)+1)=((b4 l x+1:Nat):Int):=aO aE (by omega)
 constructor
 ·rw [hw]
  unfold jo
  rw [decide_eq_true (show (0:Int)≤((b4 l x:Nat):Int) by omega),decide_eq_true (show ((b4 l x:Nat):Int)<((b4 l x+1:Nat):Int) by omega),decide_eq_true (show ((b4 l x+1:Nat):Int)≤((l.length:Nat):Int) by omega),fits (by omega)];rfl
 ·rw [hw,wE hs h]
  unfold dg;simp only [Int.toNat_natCast]
theorem P7{l:List aj}{x:ID}(hs:bT l)(h:(aQ l x).isSome=true)(hl:l.length≤50000000) :
  jo l ((bz l x:Nat):Int) (IntKind.wrap .i64 (((bz l x:Nat):Int)+1))=true∧dg l ((bz l x:Nat):Int) (IntKind.wrap .i64 (((bz l x:Nat):Int)+1))=dp l x:=by
 obtain ⟨e,he⟩:=Option.isSome_iff_exists.1 h
 have aE:=(List.getElem?_eq_some_iff.1 (c4 hs he)).1
 have hw:IntKind.wrap .i64 (((bz l x:Nat):Int)+1)=((bz l x+1:Nat):Int):=aO aE (by omega)
 constructor
 ·rw [hw]
  unfold jo
  rw [decide_eq_true (show (0:Int)≤((bz l x:Nat):Int) by omega),decide_eq_true (show ((bz l x:Nat):Int)<((bz l x+1:Nat):Int) by omega),decide_eq_true (show ((bz l x+1:Nat):Int)≤((l.length:Nat):Int) by omega),fits (by omega)];rfl
 ·rw [hw,wB hs h]
  unfold dg;simp only [Int.toNat_natCast]
theorem Sv.re{l:List aj}(h:Sv l)(x:ID){r:List ae}(hr:r.length≤50000000):Sv (l.map (wu x r)):=by
 refine ⟨by simp;exact h.n,fun w hw => ?_⟩
 obtain ⟨u,hu,rfl⟩:=List.mem_map.1 hw
 unfold wu
 split
 ·exact hr
 ·exact h.r u hu
theorem Bw{row:List ae}(d:ae):(iJ row d).length≤row.length:=by
 unfold iJ;rw [fS];exact List.length_filter_le _ _
theorem KT{w:aG}{x:ae}(hw:Rw w.1){k:Nat}{v:aj}(hk:w.1[k]? = some v)(hx:x∈v.2.1)(e:List au):w.1.set k (v.1,(iJ v.2.1 x,v.2.2))=(aH (w.1,e) x).1:=by
 rw [jM (d:=(w.1,e)) hw (List.mem_of_getElem? hk) hx]
 exact Jt hw.s hk _
theorem ae6(hG:HG G)(s:StateT)(o:bW)(h:gy s)(hs:Sv s.1.1) :
  ∃(e:Int) (w:aG),FX G 93 Av ((o,()),(aI s,()))=some ((e,()),(w,()))∧fV e w=Hc s o:=by
 have bc:=h.d.ne
 unfold Hc
 cases hf:(aU s.1.2 (bB o)).isSome with
 | false =>
  refine ⟨13,aI s,?_,?_⟩
  ·refine aC (fn:=Tryz.f93) (hG _ _ rfl) (by kernel_rfl) (by kernel_rfl) ((Ys _ _ _).trans ?_)
   refine aa (nM hG (aI s) (bB o) h.d.se (by show s.1.2.length≤_;omega)) ?_
   exact aJ ((da (l:=s.1.2) h.d.se).trans hf) rfl
  ·rw [if_pos (show (lV s.1 (bB o)).isSome=false from hf)];rfl
 | true =>
  rw [if_neg (show ¬(lV s.1 (bB o)).isSome=false by show ¬(aU s.1.2 (bB o)).isSome=false;rw [hf];simp)]
  obtain ⟨x,hx⟩:∃x:ae,x=(bB o,0):=⟨_,rfl⟩
  obtain ⟨y,hy⟩:∃y:ae,y=(bB o,1):=⟨_,rfl⟩
  have hxd:x∈an s.1.1:=by rw [hx];exact h.d.lK hf (.inl rfl)
  have ZX:y∈an s.1.1:=by rw [hy];exact h.d.lK hf (.inr rfl)
  have g1:=jO h.g h.n (x,eW s.1 x)
  have hn:=h.n
  obtain ⟨p1,q1⟩:=eX h.d.rw hxd
  have ae8:y∈an (aH s.1 x).1:=by
   rcases List.mem_cons.1 (p1.mem_iff.1 ZX) with k | k
   ·rw [hx,hy] at k;cases k
   ·exact k
  have KR:=jN (jN h.d.gv x) y
  refine ⟨0,((aH (aH s.1 x) y).1,(dS s.1.2 (bB o),(bU (bU s.2 (x,eW s.1 x)) (y,eW s.1 y),()))),?_,?_⟩
  ·refine aC (fn:=Tryz.f93) (hG _ _ rfl) (by kernel_rfl) (by kernel_rfl) ((Ys _ _ _).trans ?_)
   refine aa (nM hG (aI s) (bB o) h.d.se (by show s.1.2.length≤_;omega)) ?_
   refine aJ ((da (l:=s.1.2) h.d.se).trans hf) (ag rfl ?_)
   have ae9:FX G 111 Aw ((bB o,()),())=some ((x,y,()),()):=by
    rw [hx,hy];exact aC (fn:=Tryz.f111) (hG _ _ rfl) (by kernel_rfl) (by kernel_rfl) (TV _ _ _)
   refine aa ae9 ?_
   refine aw (j:=0) (by kernel_rfl) ((I5 _ _ _).trans ?_)
   refine af rfl (af rfl (aa (a:=x) rfl ?_))
   refine aa (Uf hG (aI s) x h.d.rw hs hxd s.1.2) ?_
   refine aa (DA hG (aI s) x (eW s.1 x) h.g (by show s.2.length≤_;omega)) ?_
   refine aw (j:=0) (by kernel_rfl) ((I5 _ _ _).trans ?_)
   refine af rfl (af rfl (aa (a:=y) rfl ?_))
   refine aa (Uf hG (s.1.1,(s.1.2,(bU s.2 (x,eW s.1 x),()))) y h.d.rw hs ZX s.1.2) ?_
   refine aa (DA hG (s.1.1,(s.1.2,(bU s.2 (x,eW s.1 x),()))) y (eW s.1 y) g1.1 (by have:=g1.2;show (bU s.2 (x,eW s.1 x)).length≤_;omega)) ?_
   refine aw (j:=0) (by kernel_rfl) ((I5 _ _ _).trans ?_)
   refine ag rfl ?_
   generalize bU (bU s.2 (x,eW s.1 x)) (y,eW s.1 y)=gg
   obtain ⟨k,v,hk,kr,hv⟩:=qE hxd
   refine aw (j:=1) (by kernel_rfl) ((I6 _ _ _).trans ?_)
   refine af rfl (af rfl (aa (a:=x) rfl ?_))
   refine aa (DB hG (s.1.1,(s.1.2,(gg,()))) x h.d.rw hs.n hs.r hk kr) ?_
   refine sB rfl (af rfl (aa hk ?_))
   refine aa (Uc hG v.2.1 x (h.d.rw.ring hv) (hs.r v hv)) ?_
   refine aa hk ?_
   have e1:s.1.1.set k (v.1,(iJ v.2.1 x,v.2.2))=(aH s.1 x).1:=KT (w:=(s.1.1,(s.1.2,(gg,())))) h.d.rw hk kr s.1.2
   have Em:Sv (aH s.1 x).1:=by
    rw [jM h.d.rw hv kr]
    exact hs.re _ (Nat.le_trans (Bw x) (hs.r v hv))
   obtain ⟨k2,v2,mW,Rn,xe⟩:=qE ae8
   have e2:(aH s.1 x).1.set k2 (v2.1,(iJ v2.2.1 y,v2.2.2))=(aH (aH s.1 x) y).1:=KT (w:=((aH s.1 x).1,(s.1.2,(gg,())))) q1 mW Rn (aH s.1 x).2
   have rest:∀a:List aj,a=(aH s.1 x).1→LX G 93 Av Tryz.f93 wc (aX Tryz.prog 93 1) ((((b4 s.1.2 (bB o):Nat):Int),((2:Int),((1:Int),()))),(((a,(s.1.2,(gg,()))),()),([x,y],())))=some (((0:Int),()),(((aH (aH s.1 x) y).1,(dS s.1.2 (bB o),(gg,()))),())):=by
    intro a ha
    subst ha
    refine aw (j:=1) (by kernel_rfl) ((I6 _ _ _).trans ?_)
    refine af rfl (af rfl (aa (a:=y) rfl ?_))
    refine aa (DB hG ((aH s.1 x).1,(s.1.2,(gg,()))) y q1 Em.n Em.r mW Rn) ?_
    refine sB rfl (af rfl (aa mW ?_))
    refine aa (Uc hG v2.2.1 y (q1.ring xe) (Em.r v2 xe)) ?_
    refine aa mW ?_
    have last:∀b:List aj,b=(aH (aH s.1 x) y).1→LX G 93 Av Tryz.f93 wc (aX Tryz.prog 93 1) ((((b4 s.1.2 (bB o):Nat):Int),((2:Int),((2:Int),()))),(((b,(s.1.2,(gg,()))),()),([x,y],())))=some (((0:Int),()),(((aH (aH s.1 x) y).1,(dS s.1.2 (bB o),(gg,()))),())):=by
     intro b hb
     subst hb
     refine aw (j:=1) (by kernel_rfl) ((I6 _ _ _).trans ?_)
     obtain ⟨d1,d2⟩:=Hq h.d.se hf (by omega)
     refine ag rfl (af d1 ?_)
     exact congrArg (fun l:List au=>some (((0:Int),()),(((aH (aH s.1 x) y).1,(l,(gg,()))),()))) d2
    exact last _ e2
   exact rest _ e1
  ·rw [←hx,←hy]
   unfold aN
   rw [rz KR]
   rfl
end Go.Vs
namespace Go.Vs
open Go.Proofs
variable {G:(f:FuncId)→(g:aL)→Option (g.A→Option g.B)}
theorem Ju{n:Int}(h0:0≤n)(h3:n≤3):eI .xor .i64 1 (eI .and .i64 n 1)=IntKind.wrap .i64 (1 - Int.tmod n 2)∧kA .i64 n 1=IntKind.wrap .i64 (Int.tdiv n 2):=by
 have:n=0∨n=1∨n=2∨n=3:=by omega
 rcases this with rfl | rfl | rfl | rfl<;>exact ⟨by decide,by decide⟩
theorem Hr{l:List aj}{x:ae}(hw:Rw l){k:Nat}{v:aj}(hk:l[k]? = some v)(hx:x∈v.2.1)(y:ae)(e:List au):l.set k (v.1,(fT v.2.1 x y,v.2.2))=(az (l,e) x y).1:=by
 rw [oT (d:=(l,e)) hw y (List.mem_of_getElem? hk) hx]
 exact Jt hw.s hk _
theorem afa(hG:HG G)(s:StateT)(o:bW)(h:gy s)(hs:Sv s.1.1)(hm:dd o=0)(VW:o.1=5) :
    ∃(e:Int) (w:aG),FX G 94 yk ((o,()),(aI s,()))=some ((e,()),(w,()))∧fV e w=mR s o:=by
  have bc:=h.d.ne;have Ny:=h.d.nv
  obtain ⟨m1,m2,m3,m4⟩:=wJ hm VW
  obtain ⟨s1,s2⟩:=Bv m3 m4
  obtain ⟨c1,c2⟩:=Ju m3 m4
  have key:∀(e:Int) (w:aG),FX G 94 yk ((o,()),(aI s,()))=some ((e,()),(w,()))→fV e w=mR s o→∃(e:Int) (w:aG),FX G 94 yk ((o,()),(aI s,()))=some ((e,()),(w,()))∧fV e w=mR s o:=fun e w a b=>⟨e,w,a,b⟩
  have start:∀(e:Int) (w:aG),cC 94 yk Tryz.f94 (FX G) (LX G 94 yk Tryz.f94) ((o,()),(aI s,()))=some ((e,()),(w,()))→FX G 94 yk ((o,()),(aI s,()))=some ((e,()),(w,())):=fun e w a =>
    aC (fn:=Tryz.f94) (hG _ _ rfl) (by kernel_rfl) (by kernel_rfl) a
  unfold mR
  cases hf:(aU s.1.2 (bB o)).isSome with
  | false =>
    refine ⟨13,aI s,start _ _ ((R8 _ _ _).trans ?_),?_⟩
    · refine aa (nM hG (aI s) (bB o) h.d.se (by show s.1.2.length≤_;omega)) ?_
      refine aa (pC hG (aI s) (fG o) h.d.sv (by show s.1.1.length≤_;omega)) ?_
      refine aa (nM hG (aI s) (bP o) h.d.se (by show s.1.2.length≤_;omega)) ?_
      exact aJ ((da (l:=s.1.2) h.d.se).trans hf) rfl
    · rw [if_pos (show (lV s.1 (bB o)).isSome=false from hf)];rfl
  | true =>
  rw [if_neg (show ¬(lV s.1 (bB o)).isSome=false by show ¬(aU s.1.2 (bB o)).isSome=false;rw [hf];simp)]
  cases RO:(aQ s.1.1 (fG o)).isSome with
  | true =>
    refine ⟨12,aI s,start _ _ ((R8 _ _ _).trans ?_),?_⟩
    · refine aa (nM hG (aI s) (bB o) h.d.se (by show s.1.2.length≤_;omega)) ?_
      refine aa (pC hG (aI s) (fG o) h.d.sv (by show s.1.1.length≤_;omega)) ?_
      refine aa (nM hG (aI s) (bP o) h.d.se (by show s.1.2.length≤_;omega)) ?_
      refine aJ ((da (l:=s.1.2) h.d.se).trans hf) (ag rfl ?_)
      exact af ((fj (l:=s.1.1) h.d.sv).trans RO) rfl
    · rw [if_pos (show (bZ s.1 (fG o)).isSome=true from RO)];rfl
  | false =>
  rw [if_neg (show ¬(bZ s.1 (fG o)).isSome=true by show ¬(aQ s.1.1 (fG o)).isSome=true;rw [RO];simp)]
  cases Sa:(aU s.1.2 (bP o)).isSome with
  | true =>
    refine ⟨12,aI s,start _ _ ((R8 _ _ _).trans ?_),?_⟩
    · refine aa (nM hG (aI s) (bB o) h.d.se (by show s.1.2.length≤_;omega)) ?_
      refine aa (pC hG (aI s) (fG o) h.d.sv (by show s.1.1.length≤_;omega)) ?_
      refine aa (nM hG (aI s) (bP o) h.d.se (by show s.1.2.length≤_;omega)) ?_
      refine aJ ((da (l:=s.1.2) h.d.se).trans hf) (ag rfl ?_)
      refine ag ((fj (l:=s.1.1) h.d.sv).trans RO) ?_
      exact af ((da (l:=s.1.2) h.d.se).trans Sa) rfl
    · rw [if_pos (show (lV s.1 (bP o)).isSome=true from Sa)];rfl
  | false =>
  rw [if_neg (show ¬(lV s.1 (bP o)).isSome=true by show ¬(aU s.1.2 (bP o)).isSome=true;rw [Sa];simp)]
  have afb:aQ s.1.1 (fG o)=none:=by simpa using RO
  have afc:aU s.1.2 (bP o)=none:=by simpa using Sa
  obtain ⟨m,Na⟩:∃m:ae,m=Rm o:=⟨_,rfl⟩
  obtain ⟨kk,RC⟩:∃m:ae,m=Nh o:=⟨_,rfl⟩
  have Jq:m∈an s.1.1:=by rw [Na];exact h.d.lK hf s1
  have CV:ah kk∉an s.1.1:=by rw [RC];exact h.d.rF afc _
  obtain ⟨p1,q1⟩:=ji h.d.rw Jq CV
  have mW:kk.2=0∨kk.2=1:=by rw [RC];exact s2
  obtain ⟨k,v,hk,kr,hv⟩:=qE Jq
  have e1:s.1.1.set k (v.1,(fT v.2.1 m (ah kk),v.2.2))=(az s.1 m (ah kk)).1:=Hr h.d.rw hk kr _ s.1.2
  have hlen:(az s.1 m (ah kk)).1.length=s.1.1.length:=by unfold az;exact fW _ _ _
  have SB:aQ (az s.1 m (ah kk)).1 (fG o)=none:=by
    unfold az Vs.cf
    rw [nL (qC _ _),afb];rfl
  have eM:((bB o,eI .xor .i64 1 (eI .and .i64 (oN o) 1)):ae)=m:=by rw [Na,c1];rfl
  have eK:((bP o,kA .i64 (oN o) 1):ae)=kk:=by rw [RC,c2];rfl
  have go:∀(e:Int) (w:aG),(∀a:List aj,a=(az s.1 m (ah kk)).1→((FX G 90 Gs (((fG o,(b5 [m,kk],(e0,(0:Int)))),()),((a,(s.1.2,(s.2,()))),()))).bind fun (mn:((Int×Unit)×(aG×Unit))) =>
       cond (mn.1.1 != (0:Int))
        (some (mn.1,((mn.2.1.1,(mn.2.1.2.1,mn.2.1.2.2)),())))
        ((FX G 110 xG ((bP o,()),((mn.2.1.1,(mn.2.1.2.1,mn.2.1.2.2)),()))).bind fun (pz:((Int×Unit)×(aG×Unit))) =>
        some (pz.1,((pz.2.1.1,(pz.2.1.2.1,pz.2.1.2.2)),()))))=some ((e,()),(w,())))→FX G 94 yk ((o,()),(aI s,()))=some ((e,()),(w,())):=fun e w rest=>by
    refine start _ _ ((R8 _ _ _).trans ?_)
    refine aa (nM hG (aI s) (bB o) h.d.se (by show s.1.2.length≤_;omega)) ?_
    refine aa (pC hG (aI s) (fG o) h.d.sv (by show s.1.1.length≤_;omega)) ?_
    refine aa (nM hG (aI s) (bP o) h.d.se (by show s.1.2.length≤_;omega)) ?_
    refine aJ ((da (l:=s.1.2) h.d.se).trans hf) (ag rfl ?_)
    refine ag ((fj (l:=s.1.1) h.d.sv).trans RO) ?_
    refine ag ((da (l:=s.1.2) h.d.se).trans Sa) ?_
    refine ag rfl ?_
    have body:∀mm k2:ae,mm=m→k2=kk→((FX G 118 lu ((mm,()),(aI s,()))).bind fun (y4:(((Option ((Fin 1)×Nat))×Unit)×(aG×Unit))) =>
      pW y4.1.1
       (none) fun (p5:((Fin 1)×Nat)) =>
      cond (p5.1.val==0)
       (((y4.2.1.1)[p5.2]?).bind fun (y6:aj) =>
       (FX G 122 nC ((k2,()),())).bind fun (y7:((ae×Unit)×Unit)) =>
       (FX G 121 ss ((y6.2.1,(mm,((y7.1.1.1,y7.1.1.2),()))),())).bind fun (y8:(((List ae)×Unit)×Unit)) =>
       ((y4.2.1.1)[p5.2]?).bind fun (y9:aj) =>
       (FX G 123 qq (([mm,k2],()),())).bind fun (pQ:(((List ae)×Unit)×Unit)) =>
       (FX G 90 Gs (((fG o,(pQ.1.1,((⟨#[]⟩:ByteArray),(0:Int)))),()),(((List.set y4.2.1.1 p5.2 (y9.1,(y8.1.1,y9.2.2))),(y4.2.1.2.1,y4.2.1.2.2)),()))).bind fun (mn:((Int×Unit)×(aG×Unit))) =>
       cond (mn.1.1 != (0:Int))
        (some (mn.1,((mn.2.1.1,(mn.2.1.2.1,mn.2.1.2.2)),())))
        ((FX G 110 xG ((bP o,()),((mn.2.1.1,(mn.2.1.2.1,mn.2.1.2.2)),()))).bind fun (pz:((Int×Unit)×(aG×Unit))) =>
        some (pz.1,((pz.2.1.1,(pz.2.1.2.1,pz.2.1.2.2)),()))))
       (none))=some ((e,()),(w,())):=by
      intro mm k2 afd afe
      subst afd afe
      refine aa (DB hG (aI s) mm h.d.rw hs.n hs.r hk kr) ?_
      refine sB rfl (af rfl (aa hk ?_))
      refine aa (Ho (hG _ _ rfl) k2 mW) ?_
      refine aa (Ud hG v.2.1 mm (ah k2) (hs.r v hv)) ?_
      refine aa hk ?_
      refine aa (Dp hG [mm,k2] (by simp)) ?_
      exact rest _ e1
    exact body _ _ eM eK
  have aff:24≤s.1.1.length→pG ((az s.1 m (ah kk)).1,(s.1.2,(s.2,()))) (fG o,(b5 [m,kk],(e0,0)))=(3,((az s.1 m (ah kk)).1,(s.1.2,(s.2,())))):=fun hb=>by
    unfold pG
    rw [if_neg (by rw [show aQ ((az s.1 m (ah kk)).1,(s.1.2,(s.2,()))).1 ((fG o,(b5 [m,kk],(e0,0))):aj).1=none from SB];simp)]
    rw [if_pos (by show 24≤(az s.1 m (ah kk)).1.length;omega)]
  have VX:¬24≤s.1.1.length→pG ((az s.1 m (ah kk)).1,(s.1.2,(s.2,()))) (fG o,(b5 [m,kk],(e0,0)))=(0,(c7 (fG o,(b5 [m,kk],(e0,0))) (az s.1 m (ah kk)).1,(s.1.2,(s.2,())))):=fun hb=>by
    unfold pG
    rw [if_neg (by rw [show aQ ((az s.1 m (ah kk)).1,(s.1.2,(s.2,()))).1 ((fG o,(b5 [m,kk],(e0,0))):aj).1=none from SB];simp)]
    rw [if_neg (by show ¬24≤(az s.1 m (ah kk)).1.length;omega)]
  by_cases hb:24≤s.1.1.length
  · refine ⟨3,((az s.1 m (ah kk)).1,(s.1.2,(s.2,()))),go _ _ (fun a ha => ?_),?_⟩
    · subst ha
      refine aa (Sw hG ((az s.1 m (ah kk)).1,(s.1.2,(s.2,()))) (fG o,(b5 [m,kk],(e0,0))) q1.s (by show (az s.1 m (ah kk)).1.length≤_;omega)) ?_
      rw [aff hb]
      exact af rfl rfl
    · rw [if_pos hb];rfl
  rw [if_neg hb]
  have hE:sD (c7 (fG o,(b5 [m,kk],(e0,0))) (az s.1 m (ah kk)).1,(s.1.2,(s.2,()))) (bP o)=if 40≤s.1.2.length then (3,(c7 (fG o,(b5 [m,kk],(e0,0))) (az s.1 m (ah kk)).1,(s.1.2,(s.2,())))) else (0,(c7 (fG o,(b5 [m,kk],(e0,0))) (az s.1 m (ah kk)).1,(fb (bP o,(e0,0)) s.1.2,(s.2,())))):=by
    unfold sD
    rw [if_neg (by show ¬(aU s.1.2 (bP o)).isSome=true;rw [Sa];simp)]
  have fin:FX G 94 yk ((o,()),(aI s,()))=some (((sD (c7 (fG o,(b5 [m,kk],(e0,0))) (az s.1 m (ah kk)).1,(s.1.2,(s.2,()))) (bP o)).1,()),((sD (c7 (fG o,(b5 [m,kk],(e0,0))) (az s.1 m (ah kk)).1,(s.1.2,(s.2,()))) (bP o)).2,())):=by
    refine go _ _ (fun a ha => ?_)
    subst ha
    refine aa (Sw hG ((az s.1 m (ah kk)).1,(s.1.2,(s.2,()))) (fG o,(b5 [m,kk],(e0,0))) q1.s (by show (az s.1 m (ah kk)).1.length≤_;omega)) ?_
    rw [VX hb]
    refine ag rfl ?_
    exact aa (T9 hG (c7 (fG o,(b5 [m,kk],(e0,0))) (az s.1 m (ah kk)).1,(s.1.2,(s.2,()))) (bP o) h.d.se (by show s.1.2.length≤_;omega)) rfl
  rw [hE] at fin
  by_cases Zk:40≤s.1.2.length
  · rw [if_pos Zk] at fin ⊢
    exact ⟨_,_,fin,rfl⟩
  · rw [if_neg Zk] at fin ⊢
    refine ⟨_,_,fin,?_⟩
    rw [Na,RC];rfl
theorem afg(hG:HG G)(s:StateT)(o:bW)(h:gy s)(hs:Sv s.1.1) :
    ∃(e:Int) (w:aG),FX G 95 qp ((o,()),(aI s,()))=some ((e,()),(w,()))∧fV e w=mz s o:=by
  have bc:=h.d.ne;have Ny:=h.d.nv;have hgn:=h.n
  have start:∀(e:Int) (w:aG),cC 95 qp Tryz.f95 (FX G) (LX G 95 qp Tryz.f95) ((o,()),(aI s,()))=some ((e,()),(w,()))→FX G 95 qp ((o,()),(aI s,()))=some ((e,()),(w,())):=fun e w a =>
    aC (fn:=Tryz.f95) (hG _ _ rfl) (by kernel_rfl) (by kernel_rfl) a
  unfold mz
  cases hf:aQ s.1.1 (bB o) with
  | none =>
    refine ⟨13,aI s,start _ _ ((Yt _ _ _).trans ?_),?_⟩
    · refine aa (pC hG (aI s) (bB o) h.d.sv (by show s.1.1.length≤_;omega)) ?_
      exact aJ ((fj (l:=s.1.1) h.d.sv).trans (by rw [hf])) rfl
    · rw [show bZ s.1 (bB o)=none from hf];rfl
  | some v =>
  have hfs:(aQ s.1.1 (bB o)).isSome=true:=by rw [hf];rfl
  have hv:=eE hf
  have VT:=gR hf
  have mK:=c4 h.d.sv hf
  have aE:=(List.getElem?_eq_some_iff.1 mK).1
  have hgr:=h.d.rw
  have go:∀(e:Int) (w:aG),(cond ((((List.length v.2.1):Nat):Int) != (2:Int)) (some (((14:Int),()),(aI s,()))) _=some ((e,()),(w,())))→FX G 95 qp ((o,()),(aI s,()))=some ((e,()),(w,())):=fun e w rest=>by
    refine start _ _ ((Yt _ _ _).trans ?_)
    refine aa (pC hG (aI s) (bB o) h.d.sv (by show s.1.1.length≤_;omega)) ?_
    refine aJ ((fj (l:=s.1.1) h.d.sv).trans hfs) (ag rfl ?_)
    refine af (dM (jf _) (ba aE)) (aa mK ?_)
    exact rest
  rw [show bZ s.1 (bB o)=some v from hf]
  by_cases sR:v.2.1.length=2
  case neg =>
    refine ⟨14,aI s,go _ _ (af (by rw [bne_iff_ne];omega) rfl),?_⟩
    show fV 14 (aI s)=(match v.2.1 with | [r0,r1]=>kG s o r0 r1 | _=>(zS,(14,())))
    split
    · rename_i hr;rw [hr] at sR;exact absurd rfl sR
    · rfl
  obtain ⟨r0,r1,hr⟩:∃r0 r1,v.2.1=[r0,r1]:=by
    match hq:v.2.1,sR with
    | [a,b],_=>exact ⟨a,b,rfl⟩
  have C6:(((List.length v.2.1:Nat):Int) != (2:Int))=false:=by rw [sR];rfl
  have g0:bh v.2.1 (0:Int)=some r0:=by rw [hr];rfl
  have g1:bh v.2.1 (1:Int)=some r1:=by rw [hr];rfl
  show ∃(e:Int) (w:aG),FX G 95 qp ((o,()),(aI s,()))=some ((e,()),(w,()))∧fV e w=(match v.2.1 with | [r0,r1]=>kG s o r0 r1 | _=>(zS,(14,())))
  rw [hr]
  show ∃(e:Int) (w:aG),FX G 95 qp ((o,()),(aI s,()))=some ((e,()),(w,()))∧fV e w=kG s o r0 r1
  unfold kG
  by_cases Xh:r0.1=r1.1
  · refine ⟨14,aI s,go _ _ (ag C6 (aa g0 (aa g1 (af ((wq r0.1 r1.1).trans (decide_eq_true Xh)) rfl)))),?_⟩
    rw [if_pos Xh];rfl
  rw [if_neg Xh]
  have b01:=(wq r0.1 r1.1).trans (decide_eq_false Xh)
  have tail:∀a b:ae,v.2.1.Perm [a,b]→a.1≠b.1→((FX G 122 nC ((b,()),())).bind fun (y7:((ae×Unit)×Unit)) =>
        cond (jo s.1.1 ((bz s.1.1 (bB o):Nat):Int) (IntKind.wrap .i64 (((bz s.1.1 (bB o):Nat):Int)+(1:Int))))
         ((FX G 118 lu (((y7.1.1.1,y7.1.1.2),()),(((dg s.1.1 ((bz s.1.1 (bB o):Nat):Int) (IntKind.wrap .i64 (((bz s.1.1 (bB o):Nat):Int)+(1:Int)))),(s.1.2,(s.2,()))),()))).bind fun (y8:(((Option ((Fin 1)×Nat))×Unit)×(aG×Unit))) =>
         pW y8.1.1
          (none) fun (p9:((Fin 1)×Nat)) =>
         cond (p9.1.val==0)
          (((y8.2.1.1)[p9.2]?).bind fun (pQ:aj) =>
          (FX G 121 ss ((pQ.2.1,((y7.1.1.1,y7.1.1.2),(a,()))),())).bind fun (mn:(((List ae)×Unit)×Unit)) =>
          ((y8.2.1.1)[p9.2]?).bind fun (pz:aj) =>
          (FX G 115 ml ((b.1,()),(((List.set y8.2.1.1 p9.2 (pz.1,(mn.1.1,pz.2.2))),(y8.2.1.2.1,y8.2.1.2.2)),()))).bind fun (lA:((Int×(Bool×Unit))×(aG×Unit))) =>
          cond (jo lA.2.1.2.1 lA.1.1 (IntKind.wrap .i64 (lA.1.1+(1:Int))))
           (LX G 95 qp Tryz.f95 mQ (aX Tryz.prog 95 0) (((0:Int),()),(((lA.2.1.1,((dg lA.2.1.2.1 lA.1.1 (IntKind.wrap .i64 (lA.1.1+(1:Int)))),lA.2.1.2.2)),((a,()),((b,()),(((y7.1.1.1,y7.1.1.2),()),())))),())))
           (none))
          (none))
         (none))=some (((0:Int),()),(((H6 s o a b).1,((H6 s o a b).2,(Jj s.2 a b,()))),())):=by
    intro a b hp nW
    obtain ⟨p,q,h1,_,h2,_⟩:=lJ h.d.sv hv
    have pd:(an s.1.1).Perm (a::b::an (p++q)):=by
      have:=(gm p q v).trans (List.Perm.append_right _ hp)
      rw [←h1] at this;exact this
    have KU:dp s.1.1 (bB o)=p++q:=by rw [←VT];exact h2
    have Js:aN s.1 (bB o) zI=(p++q,s.1.2):=by unfold aN;rw [KU,oV h.d.ge]
    have Cf:=pd.nodup_iff.1 hgr.n
    have hbm:b∈ends s.1.2:=h.d.pd.mem_iff.1 (pd.mem_iff.2 (by simp))
    obtain ⟨e,he,XX,vB⟩:=c5.1 hbm
    have yE:(aU s.1.2 b.1).isSome=true:=by
      unfold aU;rw [List.find?_isSome];exact ⟨e,he,by simpa using XX⟩
    obtain ⟨_,ho⟩:=gq vB
    have MD:ah b∈an (p++q):=by
      have h3:ah b∈an s.1.1:=h.d.lK (s:=(ah b).2) yE (by rcases ho with ⟨_,k⟩ | ⟨_,k⟩<;>omega)
      rcases List.mem_cons.1 (pd.mem_iff.1 h3) with k | k
      · exact absurd (congrArg Prod.fst k) (fun k=>nW k.symm)
      rcases List.mem_cons.1 k with k | k
      · have:=congrArg Prod.snd k;omega
      · exact k
    have E1:Rw (p++q):=⟨by rw [←h2];exact lH h.d.sv,(List.nodup_cons.1 (List.nodup_cons.1 Cf).2).2⟩
    have bp:∀u∈p++q,u∈s.1.1:=fun u hu=>by
      rw [h1]
      rcases List.mem_append.1 hu with k | k
      · exact List.mem_append_left _ k
      · exact List.mem_append_right _ (List.mem_cons_of_mem _ k)
    have Em:Sv (p++q):=⟨by
      have:=hs.n;rw [h1] at this;simp at this ⊢;omega,fun u hu=>hs.r u (bp u hu)⟩
    obtain ⟨dk1,dk2⟩:=P7 h.d.sv hfs (by omega)
    rw [KU] at dk2
    obtain ⟨k,u,hk,hxu,hu⟩:=qE MD
    have e1:(p++q).set k (u.1,(fT u.2.1 (ah b) a,u.2.2))=(az (p++q,s.1.2) (ah b) a).1:=Hr E1 hk hxu _ s.1.2
    have KR:∀w∈(az (p++q,s.1.2) (ah b) a).1,GV w:=oU (d:=(p++q,s.1.2)) (fun w hw=>h.d.gv w (bp w hw)) _ _
    have eD:H6 s o a b=((az (p++q,s.1.2) (ah b) a).1,dS s.1.2 b.1):=by
      unfold H6
      rw [Js]
      unfold aN
      rw [rz KR];rfl
    have ga:=jO h.g h.n ((b.1,0),tn a b 0)
    rw [eD]
    refine aa (Ho (hG _ _ rfl) b vB) ?_
    refine af dk1 ?_
    have r1:∀l1:List aj,l1=p++q→((FX G 118 lu ((ah b,()),((l1,(s.1.2,(s.2,()))),()))).bind fun (y8:(((Option ((Fin 1)×Nat))×Unit)×(aG×Unit))) =>
         pW y8.1.1
          (none) fun (p9:((Fin 1)×Nat)) =>
         cond (p9.1.val==0)
          (((y8.2.1.1)[p9.2]?).bind fun (pQ:aj) =>
          (FX G 121 ss ((pQ.2.1,(ah b,(a,()))),())).bind fun (mn:(((List ae)×Unit)×Unit)) =>
          ((y8.2.1.1)[p9.2]?).bind fun (pz:aj) =>
          (FX G 115 ml ((b.1,()),(((List.set y8.2.1.1 p9.2 (pz.1,(mn.1.1,pz.2.2))),(y8.2.1.2.1,y8.2.1.2.2)),()))).bind fun (lA:((Int×(Bool×Unit))×(aG×Unit))) =>
          cond (jo lA.2.1.2.1 lA.1.1 (IntKind.wrap .i64 (lA.1.1+(1:Int))))
           (LX G 95 qp Tryz.f95 mQ (aX Tryz.prog 95 0) (((0:Int),()),(((lA.2.1.1,((dg lA.2.1.2.1 lA.1.1 (IntKind.wrap .i64 (lA.1.1+(1:Int)))),lA.2.1.2.2)),((a,()),((b,()),((ah b,()),())))),())))
           (none))
          (none))=some (((0:Int),()),(((az (p++q,s.1.2) (ah b) a).1,(dS s.1.2 b.1,(Jj s.2 a b,()))),())):=by
      intro l1 hl1
      subst hl1
      refine aa (DB hG (p++q,(s.1.2,(s.2,()))) (ah b) E1 Em.n Em.r hk hxu) ?_
      refine sB rfl (af rfl (aa hk ?_))
      refine aa (Ud hG u.2.1 (ah b) a (Em.r u hu)) ?_
      refine aa hk ?_
      have r2:∀l2:List aj,l2=(az (p++q,s.1.2) (ah b) a).1→((FX G 115 ml ((b.1,()),((l2,(s.1.2,(s.2,()))),()))).bind fun (lA:((Int×(Bool×Unit))×(aG×Unit))) =>
          cond (jo lA.2.1.2.1 lA.1.1 (IntKind.wrap .i64 (lA.1.1+(1:Int))))
           (LX G 95 qp Tryz.f95 mQ (aX Tryz.prog 95 0) (((0:Int),()),(((lA.2.1.1,((dg lA.2.1.2.1 lA.1.1 (IntKind.wrap .i64 (lA.1.1+(1:Int)))),lA.2.1.2.2)),((a,()),((b,()),((ah b,()),())))),())))
           (none))=some (((0:Int),()),(((az (p++q,s.1.2) (ah b) a).1,(dS s.1.2 b.1,(Jj s.2 a b,()))),())):=by
        intro l2 sR
        subst sR
        refine aa (nM hG ((az (p++q,s.1.2) (ah b) a).1,(s.1.2,(s.2,()))) b.1 h.d.se (by show s.1.2.length≤_;omega)) ?_
        obtain ⟨ek1,ek2⟩:=Hq h.d.se yE (by omega)
        refine af ek1 ?_
        have r3:∀l3:List au,l3=dS s.1.2 b.1→(LX G 95 qp Tryz.f95 mQ (aX Tryz.prog 95 0) (((0:Int),()),((((az (p++q,s.1.2) (ah b) a).1,(l3,(s.2,()))),((a,()),((b,()),((ah b,()),())))),())))=some (((0:Int),()),(((az (p++q,s.1.2) (ah b) a).1,(dS s.1.2 b.1,(Jj s.2 a b,()))),())):=by
          intro l3 hl3
          subst hl3
          have eb:b=(b.1,b.2):=rfl
          have eo:ah b=(b.1,(ah b).2):=rfl
          rcases ho with ⟨Ct,NF⟩ | ⟨Mg,ho0⟩
          · rw [Ct] at eb;rw [NF] at eo
            have t0:tn a b 0=zD:=by unfold tn;rw [if_neg (by rw [eo];simp)]
            have t1:tn a b 1=a:=by unfold tn;rw [if_pos eo.symm]
            rw [t0,←eb] at ga
            have eG:Jj s.2 a b=bU (bU s.2 (b,zD)) (ah b,a):=by unfold Jj;rw [t0,t1,←eb,←eo]
            rw [eG]
            refine aw (j:=0) (by kernel_rfl) ((wg _ _ _).trans ?_)
            refine af rfl (af (by show (b.2==(0:Int))=true;simp [Ct]) ?_)
            refine aa (DA hG ((az (p++q,s.1.2) (ah b) a).1,(dS s.1.2 b.1,(s.2,()))) b zD h.g (by show s.2.length≤_;omega)) ?_
            refine aw (j:=0) (by kernel_rfl) ((wg _ _ _).trans ?_)
            refine af rfl (ag (by show (b.2==(1:Int))=false;simp [Ct]) ?_)
            refine aa (DA hG ((az (p++q,s.1.2) (ah b) a).1,(dS s.1.2 b.1,(bU s.2 (b,zD),()))) (ah b) a ga.1 (by have:=ga.2;show (bU s.2 (b,zD)).length≤_;omega)) ?_
            refine aw (j:=0) (by kernel_rfl) ((wg _ _ _).trans ?_)
            exact ag rfl rfl
          · rw [Mg] at eb;rw [ho0] at eo
            have t0:tn a b 0=a:=by unfold tn;rw [if_pos eo.symm]
            have t1:tn a b 1=zD:=by unfold tn;rw [if_neg (by rw [eo];simp)]
            rw [t0,←eo] at ga
            have eG:Jj s.2 a b=bU (bU s.2 (ah b,a)) (b,zD):=by unfold Jj;rw [t0,t1,←eb,←eo]
            rw [eG]
            refine aw (j:=0) (by kernel_rfl) ((wg _ _ _).trans ?_)
            refine af rfl (ag (by show (b.2==(0:Int))=false;simp [Mg]) ?_)
            refine aa (DA hG ((az (p++q,s.1.2) (ah b) a).1,(dS s.1.2 b.1,(s.2,()))) (ah b) a h.g (by show s.2.length≤_;omega)) ?_
            refine aw (j:=0) (by kernel_rfl) ((wg _ _ _).trans ?_)
            refine af rfl (af (by show (b.2==(1:Int))=true;simp [Mg]) ?_)
            refine aa (DA hG ((az (p++q,s.1.2) (ah b) a).1,(dS s.1.2 b.1,(bU s.2 (ah b,a),()))) b zD ga.1 (by have:=ga.2;show (bU s.2 (ah b,a)).length≤_;omega)) ?_
            refine aw (j:=0) (by kernel_rfl) ((wg _ _ _).trans ?_)
            exact ag rfl rfl
        exact r3 _ ek2
      exact r2 _ e1
    exact r1 _ dk2
  have bo:∀y:ae,((y.1.1==(bP o).1)&&(y.1.2==(bP o).2))=decide (y.1=bP o):=fun y=>wq y.1 (bP o)
  by_cases h0:r0.1=bP o
  · rw [if_pos h0]
    refine ⟨0,((H6 s o r1 r0).1,((H6 s o r1 r0).2,(Jj s.2 r1 r0,()))),go _ _ (ag C6 (aa g0 (aa g1 (ag b01 (aa g0 (aa g1 (af ((bo r0).trans (decide_eq_true h0)) ?_))))))),rfl⟩
    refine aJ ((bo r0).trans (decide_eq_true h0)) (ag rfl ?_)
    exact tail r1 r0 (by rw [hr];exact List.Perm.swap _ _ _) (fun k=>Xh k.symm)
  rw [if_neg h0]
  by_cases h1:r1.1=bP o
  · rw [if_pos h1]
    refine ⟨0,((H6 s o r0 r1).1,((H6 s o r0 r1).2,(Jj s.2 r0 r1,()))),go _ _ (ag C6 (aa g0 (aa g1 (ag b01 (aa g0 (aa g1 (ag ((bo r0).trans (decide_eq_false h0)) ?_))))))),rfl⟩
    refine aJ ((bo r1).trans (decide_eq_true h1)) (ag rfl ?_)
    exact tail r0 r1 (by rw [hr]) Xh
  rw [if_neg h1]
  refine ⟨14,aI s,go _ _ (ag C6 (aa g0 (aa g1 (ag b01 (aa g0 (aa g1 (ag ((bo r0).trans (decide_eq_false h0)) ?_))))))),rfl⟩
  exact aJ ((bo r1).trans (decide_eq_false h1)) (af rfl rfl)
end Go.Vs
namespace Go.Vs
open Go.Proofs
theorem DC{row:List ae}(hn:row.Nodup){i j:Nat}{hi:i<row.length}{hj:j<row.length}(h:row[i]=row[j]):i=j:=by
 rcases Nat.lt_trichotomy i j with k | k | k
 ·exact absurd h (List.pairwise_iff_getElem.1 hn i j hi hj k)
 ·exact k
 ·exact absurd h.symm (List.pairwise_iff_getElem.1 hn j i hj hi k)
theorem wL{row:List ae}(hn:row.Nodup){i j:Nat}{x:ae}(hi:row[i]? = some x)(hj:row[j]? = some x):i=j:=by
 obtain ⟨h1,h2⟩:=List.getElem?_eq_some_iff.1 hi
 obtain ⟨h3,h4⟩:=List.getElem?_eq_some_iff.1 hj
 exact DC hn (h2.trans h4.symm)
theorem xU(row:List ae):∃j,j≤row.length∧b5 row=B4 row j:=by
 by_cases h0:row.length=0
 ·have:row=[]:=by simpa using h0
  subst this;exact ⟨0,by simp,rfl⟩
 ·exact ⟨eF row row 0 0,Nat.le_of_lt (mw row row 0 0 (by omega) (by omega)),rfl⟩
theorem MF{row:List ae}(hn:row.Nodup){k:Nat}{m y:ae}(hk:row[k]? = some m)(hy:y∉row):(row.set k y).Nodup:=by
 obtain ⟨h1,h2⟩:=List.getElem?_eq_some_iff.1 hk
 rw [List.set_eq_take_append_cons_drop,if_pos h1]
 have p:(row.take k++y::row.drop (k+1)).Perm (y::(row.take k++row.drop (k+1))):=List.perm_middle
 refine p.nodup_iff.2 (List.nodup_cons.2 ⟨fun h=>hy ?_,?_⟩)
 ·rcases List.mem_append.1 h with h | h
  ·exact List.mem_of_mem_take h
  ·exact List.mem_of_mem_drop h
 ·refine List.Sublist.nodup ?_ hn
  conv=>rhs;rw [←List.take_append_drop k row]
  refine List.Sublist.append (List.Sublist.refl _) ?_
  exact (List.drop_sublist_drop_left row (show k≤k+1 by omega))
theorem SC{row:List ae}(hn:row.Nodup){k:Nat}{x:ae}(hk:row[k]? = some x):idx x row 0=(k:Int):=by
 have:=Jn (d:=x) (row:=row) (k:=k) (i:=0) hk (fun j hj he=>by have:=wL hn hk he;omega)
 omega
theorem P8(m k:ae):b5 [m,k]=[m,k]∨b5 [m,k]=[k,m]:=by
 have hm:=mw [m,k] [m,k] 0 0 (by simp) (by simp)
 have:eF [m,k] [m,k] 0 0=0∨eF [m,k] [m,k] 0 0=1:=by simp at hm;omega
 unfold b5
 rcases this with h | h<;>rw [h]
 ·exact .inl rfl
 ·exact .inr rfl
end Go.Vs
namespace Go.Vs
open Go.Proofs
variable {G:(f:FuncId)→(g:aL)→Option (g.A→Option g.B)}
theorem MG(l:List aj)(x:ID):l.any (fun w=>decide (w.1=x))=(aQ l x).isSome:=by
 rw [Bool.eq_iff_iff,List.any_eq_true];unfold aQ;rw [List.find?_isSome]
theorem MH(l:List au)(x:ID):l.any (fun w=>decide (w.1=x))=(aU l x).isSome:=by
 rw [Bool.eq_iff_iff,List.any_eq_true];unfold aU;rw [List.find?_isSome]
theorem MI(s:StateT)(o:bW):fV (tu (aI s) o).1 (tu (aI s) o).2=wy s o:=by
 unfold tu wy ZK ZL
 rw [MG,MH]
 by_cases ho:wx o=true
 ·have hv:s.1.1.map (lW o)=s.1.1:=by
   conv=>rhs;rw [←List.map_id s.1.1]
   exact List.map_congr_left fun u hu=>by unfold lW;rw [if_neg (by rw [ho];simp)];rfl
  rw [if_pos ho,ho,hv]
  show fV (if (aU s.1.2 (bB o)).isSome=true then _ else _:Int×aG).1 (if (aU s.1.2 (bB o)).isSome=true then _ else _:Int×aG).2=_
  cases (aU s.1.2 (bB o)).isSome<;>rfl
 ·have mL:wx o=false:=by simpa using ho
  have he:s.1.2.map (qB o)=s.1.2:=by
   conv=>rhs;rw [←List.map_id s.1.2]
   exact List.map_congr_left fun u hu=>by unfold qB;rw [if_neg (by rw [mL];simp)];rfl
  rw [if_neg ho,mL,he]
  show fV (if (aQ s.1.1 (bB o)).isSome=true then _ else _:Int×aG).1 (if (aQ s.1.1 (bB o)).isSome=true then _ else _:Int×aG).2=_
  cases (aQ s.1.1 (bB o)).isSome<;>rfl
theorem P9(hG:HG G)(w:aG)(o:bW)(hk:7≤o.1)(hv:bT w.1)(he:c9 w.2.1)(Ni:w.1.length≤50000000)(hle:w.2.1.length≤50000000) :
  FX G 66 yh ((o,()),(w,()))=some (((tu w o).1,()),((tu w o).2,())):=by
 refine aC (fn:=Tryz.f66) (hG _ _ rfl) (by kernel_rfl) (by kernel_rfl) ((EF _ _ _).trans ?_)
 have kn:∀k:Int,k<7→(o.1==k)=false:=fun k mW=>xS (by omega)
 refine ag (kn 1 (by omega)) (ag (kn 2 (by omega)) (ag (kn 3 (by omega)) (ag (kn 4 (by omega)) (ag (kn 5 (by omega)) (ag (kn 6 (by omega)) ?_)))))
 exact aa (ae3 hG w o hv he Ni hle) rfl
def opL(x:ID)(e:Bool)(t:ByteArray):bW:=(7,(x,(zI,(zI,(zC,(zC,(e,(t,0))))))))
def opA(x:ID)(e:Bool)(n:Int):bW:=(8,(x,(zI,(zI,(zC,(zC,(e,(e0,n))))))))
theorem MJ{t:ByteArray}(h:oQ t=true):t.size≤16:=by
 unfold oQ at h
 simp only [Bool.and_eq_true,decide_eq_true_eq] at h
 exact h.2
theorem Hs{l:List aj}(hs:bT l){v w:aj}(hv:v∈l)(hw:w∈l)(h:w.1=v.1):w=v:=by
 have h1:=jh hs hv
 have h2:=jh hs hw
 rw [h,h1] at h2
 exact (Option.some.inj h2).symm
structure Lay(s t:StateT):Prop where
 v:bT t.1.1
 e:c9 t.1.2
 sm:Sm t.1
 g:t.2.length≤50000000
end Go.Vs
namespace Go.Vs
open Go.Proofs
variable {G:(f:FuncId)→(g:aL)→Option (g.A→Option g.B)}
theorem xV(l:List au):(ends l).length=2 * l.length:=by
 induction l with
 | nil=>rfl
 | cons e r ih=>rw [jK];simp [ih];omega
theorem SD{l:List aj}{v:aj}(h:v∈l):v.2.1.length≤(an l).length:=by
 obtain ⟨a,b,rfl⟩:=List.append_of_mem h
 rw [nN,im];simp;omega
theorem Wf.wM{d:ai}(h:Wf d):∀v∈d.1,v.2.1.length≤80:=fun v hv=>by
 have h1:=SD hv
 have h2:=h.pd.length_eq
 have h3:=h.ne
 rw [xV] at h2;omega
theorem Wf.sm{d:ai}(h:Wf d):Sm d:=⟨by have:=h.nv;omega,by have:=h.ne;omega,fun v hv=>by have:=h.wM v hv;omega⟩
theorem Wf.small{d:ai}(h:Wf d):Sv d.1:=⟨by have:=h.nv;omega,fun v hv=>by have:=h.wM v hv;omega⟩
theorem MK(s:StateT)(o:bW):fV (pG (aI s) (bB o,([],(e0,0)))).1 (pG (aI s) (bB o,([],(e0,0)))).2=sy s o:=by
 by_cases hh:(aQ s.1.1 (bB o)).isSome=true
 ·have a:pG (aI s) (bB o,([],(e0,0)))=(12,aI s):=if_pos hh
  have b:sy s o=(zS,(12,())):=if_pos hh
  rw [a,b];rfl
 by_cases h:24≤s.1.1.length
 ·have a:pG (aI s) (bB o,([],(e0,0)))=(3,aI s):=(if_neg hh).trans (if_pos h)
  have b:sy s o=(zS,(3,())):=(if_neg hh).trans (if_pos h)
  rw [a,b];rfl
 ·have a:pG (aI s) (bB o,([],(e0,0)))=(0,(c7 (bB o,([],(e0,0))) (aI s).1,(aI s).2)):=(if_neg hh).trans (if_neg h)
  have b:sy s o=(((c7 (bB o,([],(e0,0))) s.1.1,s.1.2),s.2),(0,())):=(if_neg hh).trans (if_neg h)
  rw [a,b];rfl
theorem ML{s:StateT}(h:gy s)(o:bW):fV (xR (aI s) (bB o)).1 (xR (aI s) (bB o)).2=xQ s o:=by
 unfold xR xQ bZ
 show fV (match aQ s.1.1 (bB o) with | none=>(13,aI s) | some v=>if 0<v.2.1.length then (14,aI s) else (0,(dp s.1.1 (bB o),(s.1.2,(s.2,())))):Int×aG).1 (match aQ s.1.1 (bB o) with | none=>(13,aI s) | some v=>if 0<v.2.1.length then (14,aI s) else (0,(dp s.1.1 (bB o),(s.1.2,(s.2,())))):Int×aG).2=_
 cases aQ s.1.1 (bB o) with
 | none=>rfl
 | some v =>
  simp only
  by_cases hl:0<v.2.1.length
  ·rw [if_pos hl,if_pos hl];rfl
  ·rw [if_neg hl,if_neg hl]
   unfold aN
   rw [oV h.d.ge];rfl
def KV(s:StateT)(o:bW):StateT×(Int×Unit) :=
 if o.1=1 then sy s o else if o.1=2 then xQ s o else if o.1=3 then uV s o else if o.1=4 then Hc s o else if o.1=5 then mR s o else if o.1=6 then mz s o else wy s o
theorem MM(s:StateT)(o:bW):wz s o=if dd o≠0 then (zS,(dd o,())) else KV s o:=rfl
theorem Qa(hG:HG G)(s:StateT)(o:bW)(h:gy s)(hm:dd o=0)(h3:o.1=3→∃(e:Int) (w:aG),FX G 92 oJ ((o,()),(aI s,()))=some ((e,()),(w,()))∧fV e w=uV s o) :
  ∃(e:Int) (w:aG),FX G 66 yh ((o,()),(aI s,()))=some ((e,()),(w,()))∧fV e w=KV s o:=by
 have hk:=Br hm
 have SF:=h.d.small
 have Ny:=h.d.nv;have bc:=h.d.ne
 have start:∀(e:Int) (w:aG),cC 66 yh Tryz.f66 (FX G) (LX G 66 yh Tryz.f66) ((o,()),(aI s,()))=some ((e,()),(w,()))→FX G 66 yh ((o,()),(aI s,()))=some ((e,()),(w,())):=fun e w a =>
  aC (fn:=Tryz.f66) (hG _ _ rfl) (by kernel_rfl) (by kernel_rfl) a
 unfold KV
 by_cases h1:o.1=1
 ·rw [if_pos h1]
  refine ⟨_,_,start _ _ ((EF _ _ _).trans (af (Fk h1) (aa (Sw hG (aI s) (bB o,([],(e0,0))) h.d.sv SF.n) rfl))),?_⟩
  exact MK s o
 rw [if_neg h1]
 by_cases h2:o.1=2
 ·rw [if_pos h2]
  refine ⟨_,_,start _ _ ((EF _ _ _).trans (ag (xS h1) (af (Fk h2) (aa (ZM hG (aI s) o h.d.sv SF.n) rfl)))),?_⟩
  exact ML h o
 rw [if_neg h2]
 by_cases Nj:o.1=3
 ·rw [if_pos Nj]
  obtain ⟨e,w,a,b⟩:=h3 Nj
  exact ⟨e,w,start _ _ ((EF _ _ _).trans (ag (xS h1) (ag (xS h2) (af (Fk Nj) (aa a rfl))))),b⟩
 rw [if_neg Nj]
 by_cases ZY:o.1=4
 ·rw [if_pos ZY]
  obtain ⟨e,w,a,b⟩:=ae6 hG s o h SF
  exact ⟨e,w,start _ _ ((EF _ _ _).trans (ag (xS h1) (ag (xS h2) (ag (xS Nj) (af (Fk ZY) (aa a rfl)))))),b⟩
 rw [if_neg ZY]
 by_cases VW:o.1=5
 ·rw [if_pos VW]
  obtain ⟨e,w,a,b⟩:=afa hG s o h SF hm VW
  exact ⟨e,w,start _ _ ((EF _ _ _).trans (ag (xS h1) (ag (xS h2) (ag (xS Nj) (ag (xS ZY) (af (Fk VW) (aa a rfl))))))),b⟩
 rw [if_neg VW]
 by_cases hk6:o.1=6
 ·rw [if_pos hk6]
  obtain ⟨e,w,a,b⟩:=afg hG s o h SF
  exact ⟨e,w,start _ _ ((EF _ _ _).trans (ag (xS h1) (ag (xS h2) (ag (xS Nj) (ag (xS ZY) (ag (xS VW) (af (Fk hk6) (aa a rfl)))))))),b⟩
 rw [if_neg hk6]
 refine ⟨_,_,P9 hG (aI s) o (by omega) h.d.sv h.d.se SF.n (by show s.1.2.length≤_;omega),?_⟩
 exact MI s o
end Go.Vs
namespace Go.Vs
open Go.Proofs
variable {G:(f:FuncId)→(g:aL)→Option (g.A→Option g.B)}
def wN(G:(f:FuncId)→(g:aL)→Option (g.A→Option g.B))(o:bW):Prop:=∀s,gy s→dd o=0→o.1=3→∃(e:Int) (w:aG),FX G 92 oJ ((o,()),(aI s,()))=some ((e,()),(w,()))∧fV e w=uV s o
theorem Qb{s:StateT}{o:bW}(hm:dd o=0):KV s o=wz s o:=by rw [MM,if_neg (by simp [hm])]
theorem afk(hG:HG G)(l:List bW)(hl:l.length≤1073741824)(hm:∀o∈l,dd o=0)(h3:∀o∈l,wN G o):∀(n i:Nat) (s:StateT),i+n=l.length→gy s →
  LX G 44 Cq Tryz.f44 AR (aX Tryz.prog 44 0) ((l,(((l.length:Nat):Int),((i:Int),()))),((zW,(aI s,())),()))=some (Mq (l.drop i) s,()):=by
 intro n
 induction n with
 | zero =>
  intro i s hi hw
  refine aw (j:=0) (by kernel_rfl) ((ED _ _ _).trans ?_)
  refine ag (decide_eq_false (show ¬((i:Int)<((l.length:Nat):Int)) by omega)) ?_
  rw [List.drop_eq_nil_of_le (by omega)];rfl
 | succ n ih =>
  intro i s hi hw
  have aE:i<l.length:=by omega
  have ho:=hm l[i] (List.getElem_mem aE)
  obtain ⟨e,w,h1,h2⟩:=Qa hG s l[i] hw ho (h3 _ (List.getElem_mem aE) s hw ho)
  rw [Qb ho] at h2
  refine aw (j:=0) (by kernel_rfl) ((ED _ _ _).trans ?_)
  refine af (ba aE) (aa (aD (List.getElem?_eq_getElem aE)) ?_)
  refine aa h1 ?_
  rw [List.drop_eq_getElem_cons aE,Mq]
  have D3:=hw.one l[i]
  by_cases he:e=0
  ·have e1:fV e w=(yR w,(0,())):=if_neg (by simp [he])
   rw [e1] at h2
   rw [←h2] at D3 ⊢
   rw [if_neg (by simp)]
   refine ag (show (e != 0)=false by simp [he]) ?_
   have:=ih (i+1) (yR w) (by omega) D3
   rw [←aO aE hl] at this
   exact this
  ·have e1:fV e w=(zS,(e,())):=if_pos he
   rw [e1] at h2
   rw [←h2,if_pos he]
   exact af (show (e != 0)=true by simp [he]) rfl
theorem VY(hG:HG G)(s:StateT)(l:List bW)(hw:gy s)(hl:l.length≤1073741824)(hm:∀o∈l,dd o=0)(h3:∀o∈l,wN G o):FX G 44 Cq ((s,l,()),())=some (Mq l s,()):=by
 have hn:=hw.n
 refine aC (fn:=Tryz.f44) (hG _ _ rfl) (by kernel_rfl) (by kernel_rfl) ((Yo _ _ _).trans ?_)
 refine aa (VM hG s.1 hw.d.sm) ?_
 refine aa (Su (hG _ _ rfl) s.2 (by omega)) ?_
 have:=afk hG l hl hm h3 l.length 0 s (by omega) hw
 rw [List.drop_zero] at this
 exact this
theorem Ht(l:List bW)(h:nJ l=0):∀o∈l,dd o=0:=by
 induction l with
 | nil=>intro o ho;simp at ho
 | cons o r ih =>
  rw [nJ] at h
  by_cases ho:dd o=0
  ·rw [if_neg (fun k=>k ho)] at h
   intro p hp
   rcases List.mem_cons.1 hp with e | hp
   ·rw [e];exact ho
   ·exact ih h p hp
  ·rw [if_pos ho] at h;exact absurd h ho
theorem Jv{l:List bW}(h:kF l=0):∀o∈l,dd o=0:=by
 unfold kF at h
 split at h
 ·exact Ht l h
 ·cases h
theorem ZZ(hG:HG G)(s:StateT)(l:List bW)(hw:gy s)(hl:l.length≤1073741824)(hf:∀o∈l,Fit o)(h3:∀o∈l,wN G o):FX G 30 Gk ((s,l,()),())=some (fC s l,()):=by
 refine aC (fn:=Tryz.f30) (hG _ _ rfl) (by kernel_rfl) (by kernel_rfl) ((Yl _ _ _).trans ?_)
 refine aa (ae2 hG l hl hf) ?_
 unfold fC
 by_cases hm:kF l=0
 ·rw [if_neg (by simp [hm])]
  refine ag (show (kF l != 0)=false by simp [hm]) ?_
  exact aa (VY hG s l hw hl (Jv hm) h3) rfl
 ·rw [if_pos hm]
  exact af (show (kF l != 0)=true by simp [hm]) rfl
theorem afl(hG:HG G)(s:StateT)(l:List bW)(hw:gy s)(hl:l.length≤1073741824)(hf:∀o∈l,Fit o)(h3:∀o∈l,wN G o):FX G 36 Oz ((s,l,()),())=some ((mS s l,()),()):=by
 have hn:=hw.n
 refine aC (fn:=Tryz.f36) (hG _ _ rfl) (by kernel_rfl) (by kernel_rfl) ((adK _ _ _).trans ?_)
 refine aa (ZZ hG s l hw hl hf h3) ?_
 unfold mS
 by_cases he:(fC s l).2.1=0
 ·rw [if_neg (by simp [he])]
  exact ag (show ((fC s l).2.1 != 0)=false by simp [he]) rfl
 ·rw [if_pos he]
  refine af (show ((fC s l).2.1 != 0)=true by simp [he]) ?_
  refine aa (VM hG s.1 hw.d.sm) ?_
  exact aa (Su (hG _ _ rfl) s.2 (by omega)) rfl
end Go.Vs
