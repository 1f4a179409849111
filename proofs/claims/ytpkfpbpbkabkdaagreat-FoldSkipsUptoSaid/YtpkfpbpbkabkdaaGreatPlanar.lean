/- What the program computes of faces, parts and whether a diagram lies in the plane. -/
import Derived.Test.YtpkfpbpbkabkdaaGreatSplits
import Derived.Test.YtpkfpbpbkabkdaaGreatEuler
set_option linter.unusedVariables false
set_option linter.unusedSimpArgs false
namespace Go.Vs
open Go.Proofs
variable {G:(f:FuncId)→(g:aL)→Option (g.A→Option g.B)}
theorem Hl(w:aj)(r:List aj)(x:ID):aN (w::r) x=if w.1=x then some w else aN r x:=by
 unfold aN;rw[List.find?_cons];by_cases h:w.1=x<;>simp[h]
theorem Np(hG:HG G)(l:List aj)(x:ID)(hl:l.length≤1073741824):FX G 110108 jK ((l,x,()),())=some (Po zV (aN l x),()):=by
 refine aJ (fn:=Tryz.f108) (hG _ _ rfl) (by kernel_rfl) (by kernel_rfl) ((Mj _ _ _).trans ?_)
 have loop:∀(n i:Nat),i+n=l.length→LX G 110108 jK Tryz.f108 kW (bA Tryz.prog 108 0) ((l,(((l.length:Nat):Int),((i:Int),()))),(((x,()),(((0:Int),((0:Int),(([]:List ab),(e0,((0:Int),()))))),())),()))=some (Po zV (aN (l.drop i) x),()):=by
  intro n
  induction n with
  |zero =>
   intro i hi
   refine aK (j:=0) (by kernel_rfl) ((yQ _ _ _).trans ?_)
   refine af (decide_eq_false (show ¬((i:Int)<((l.length:Nat):Int)) by omega)) ?_
   rw[List.drop_eq_nil_of_le (by omega)];rfl
  |succ n ih =>
   intro i hi
   have aE:i<l.length:=by omega
   have aaq:FX G 109 Eg ((l[i],()),())=some ((l[i].1,()),()):=aJ (fn:=Tryz.f109) (hG _ _ rfl) (by kernel_rfl) (by kernel_rfl) (UW _ _ _)
   refine aK (j:=0) (by kernel_rfl) ((yQ _ _ _).trans ?_)
   refine ae (bG aE) (aa (bN (List.getElem?_eq_getElem aE)) ?_)
   refine aa aaq ?_
   rw[List.drop_eq_getElem_cons aE,Hl]
   by_cases he:l[i].1=x
   ·rw[if_pos he]
    exact ae ((EH l[i].1 x).trans (decide_eq_true he)) rfl
   ·rw[if_neg he]
    refine af ((EH l[i].1 x).trans (decide_eq_false he)) ?_
    have:=ih (i+1) (by omega)
    rw[←aP aE hl]at this
    exact this
 have:=loop l.length 0 (by omega)
 rw[List.drop_zero]at this
 exact this
theorem Wg(hG:HG G)(d:ak)(x:ID)(hs:Sm d):FX G 74 Ed ((d,x,()),())=some (Po zV (ck d x),()):=by
 have hv:=hs.v
 refine aJ (fn:=Tryz.f74) (hG _ _ rfl) (by kernel_rfl) (by kernel_rfl) ((UI _ _ _).trans ?_)
 refine aa (Np hG d.1 x (by omega)) ?_
 unfold ck
 cases hf:aN d.1 x with
 |none=>exact aa (R3 (hG _ _ rfl) [] (by simp)) rfl
 |some v=>exact aa (R3 (hG _ _ rfl) v.2.1 (hs.r v (fH hf))) rfl
theorem Nq(w:aj)(r:List aj)(x:ab):Iz (w::r) x=if x∈w.2.1 then some w.1 else Iz r x:=by
 unfold Iz;rw[List.find?_cons];by_cases h:x∈w.2.1<;>simp[h]
theorem QY(hG:HG G)(d:ak)(x:ab)(hs:Sm d):FX G 139 tw ((d,x,()),())=some (Po zI (fN d x),()):=by
 have hv:=hs.v
 refine aJ (fn:=Tryz.f139) (hG _ _ rfl) (by kernel_rfl) (by kernel_rfl) ((UX _ _ _).trans ?_)
 have loop:∀(n i:Nat),i+n=d.1.length→LX G 139 tw Tryz.f139 tG (bA Tryz.prog 139 0) ((d.1,(((d.1.length:Nat):Int),((i:Int),()))),(((x,()),((zI,()),())),()))=some (Po zI (Iz (d.1.drop i) x),()):=by
  intro n
  induction n with
  |zero =>
   intro i hi
   refine aK (j:=0) (by kernel_rfl) ((Ib _ _ _).trans ?_)
   refine af (decide_eq_false (show ¬((i:Int)<((d.1.length:Nat):Int)) by omega)) ?_
   rw[List.drop_eq_nil_of_le (by omega)];rfl
  |succ n ih =>
   intro i hi
   have aE:i<d.1.length:=by omega
   refine aK (j:=0) (by kernel_rfl) ((Ib _ _ _).trans ?_)
   refine ae (bG aE) (aa (bN (List.getElem?_eq_getElem aE)) ?_)
   refine aa (By hG d.1[i].2.1 x (by have:=hs.r _ (List.getElem_mem aE);omega)) ?_
   rw[List.drop_eq_getElem_cons aE,Nq]
   by_cases he:x∈d.1[i].2.1
   ·rw[if_pos he]
    exact ae (decide_eq_true he) rfl
   ·rw[if_neg he]
    refine af (decide_eq_false he) ?_
    have:=ih (i+1) (by omega)
    rw[←aP aE (by omega)]at this
    exact this
 have:=loop d.1.length 0 (by omega)
 rw[List.drop_zero]at this
 exact this
def Hm(x:ab):List aG→Int→Int
 |[],_ => -1
 |g::r,i=>if g.1=x then i else Hm x r (i+1)
theorem Fi(x:ab):∀(l:List aG) (i:Nat),(Hm x l i = -1∧la l x=none)∨∃k g,Hm x l (i:Int)=((i+k:Nat):Int)∧l[k]? = some g∧la l x=some g.2
 |[],i=>.inl ⟨rfl,rfl⟩
 |g::r,i=>by
  rw[Hm,og]
  by_cases h:g.1=x
  ·rw[if_pos h,if_pos h]
   exact .inr ⟨0,g,by simp,by simp,rfl⟩
  ·rw[if_neg h,if_neg h]
   have e:(i:Int)+1=((i+1:Nat):Int):=by omega
   rw[e]
   rcases Fi x r (i+1) with⟨h1,h2⟩|⟨k,q,h1,h2,h3⟩
   ·exact .inl ⟨h1,h2⟩
   ·exact .inr ⟨k+1,q,by rw[h1];congr 1;omega,by simpa using h2,h3⟩
theorem Nr(hG:HG G)(l:List aG)(x:ab)(hl:l.length≤1073741824):FX G 246244 iz ((l,()),((x,()),()))=some ((Hm x l 0,()),((x,()),())):=by
 refine aJ (fn:=Tryz.f244) (hG _ _ rfl) (by kernel_rfl) (by kernel_rfl) ((Ml _ _ _).trans ?_)
 have loop:∀(n i:Nat),i+n=l.length→LX G 246244 iz Tryz.f244 jf (bA Tryz.prog 244 0) ((l,(((l.length:Nat):Int),((i:Int),()))),(((x,()),()),()))=some ((Hm x (l.drop i) i,()),((x,()),())):=by
  intro n
  induction n with
  |zero =>
   intro i hi
   refine aK (j:=0) (by kernel_rfl) ((yS _ _ _).trans ?_)
   refine af (decide_eq_false (show ¬((i:Int)<((l.length:Nat):Int)) by omega)) ?_
   rw[List.drop_eq_nil_of_le (by omega)];rfl
  |succ n ih =>
   intro i hi
   have aE:i<l.length:=by omega
   have aar:FX G 245 Ej ((l[i],()),((x.1.1,(x.1.2,(x.2,()))),()))=some (((((l[i].1.1.1==x.1.1)&&(l[i].1.1.2==x.1.2))&&(l[i].1.2==x.2)),()),((x.1.1,(x.1.2,(x.2,()))),())) :=
    aJ (fn:=Tryz.f245) (hG _ _ rfl) (by kernel_rfl) (by kernel_rfl) (U5 _ _ _)
   refine aK (j:=0) (by kernel_rfl) ((yS _ _ _).trans ?_)
   refine ae (bG aE) (aa (bN (List.getElem?_eq_getElem aE)) ?_)
   refine aa aar ?_
   rw[List.drop_eq_getElem_cons aE,Hm]
   by_cases he:l[i].1=x
   ·rw[if_pos he]
    exact ae ((EI l[i].1 x).trans (decide_eq_true he)) rfl
   ·rw[if_neg he]
    refine af ((EI l[i].1 x).trans (decide_eq_false he)) ?_
    have:=ih (i+1) (by omega)
    have e:=aP aE hl
    show LX G 246244 iz Tryz.f244 jf (bA Tryz.prog 244 0) ((l,(((l.length:Nat):Int),(IntKind.wrap .i64 ((i:Int)+1),()))),(((x,()),()),()))=some ((Hm x (l.drop (i+1)) ((i+1:Nat):Int),()),((x,()),()))
    rw[e]
    exact this
 have:=loop l.length 0 (by omega)
 rw[List.drop_zero]at this
 exact this
theorem Wh(hG:HG G)(l:List aG)(x:ab)(hl:l.length≤1073741824):FX G 230 Eh ((l,x,()),())=some (Po zD (la l x),()):=by
 refine aJ (fn:=Tryz.f230) (hG _ _ rfl) (by kernel_rfl) (by kernel_rfl) ((UY _ _ _).trans ?_)
 refine aa (Nr hG l x hl) ?_
 rcases Fi x l 0 with⟨h1,h2⟩|⟨k,g,h1,h2,h3⟩
 ·have h1:Hm x l 0 = -1:=h1
  rw[h2]
  exact ae (decide_eq_true (show Hm x l 0<0 by omega)) rfl
 ·have h1:Hm x l 0=(k:Int):=by
   have:Hm x l ((0:Nat):Int)=Hm x l 0:=rfl
   rw[←this,h1];congr 1;omega
  rw[h3]
  refine af (decide_eq_false (show ¬Hm x l 0<0 by omega)) ?_
  refine aa (show cQ l (Hm x l 0)=some g by rw[h1];exact bN h2) ?_
  rfl
theorem Wi(hG:HG G)(s:StateT)(x:ab)(hs:Sm s.1)(hg:s.2.length≤50000000):FX G 212 vT ((s,x,()),())=some ((resolve s x,()),()):=by
 refine aJ (fn:=Tryz.f212) (hG _ _ rfl) (by kernel_rfl) (by kernel_rfl) ((UJ _ _ _).trans ?_)
 have hw:IntKind.wrap .i64 (((s.2.length:Nat):Int)+1)=((s.2.length+1:Nat):Int):=by rw[wrap_small (by omega) (by omega)];rfl
 have loop:∀(n i:Nat) (y:ab),i+n=s.2.length+1→LX G 212 vT Tryz.f212 tC (bA Tryz.prog 212 0) (((IntKind.wrap .i64 (((s.2.length:Nat):Int)+1)),((i:Int),())),(((s,()),((y,()),((zD,()),()))),()))=some ((res s.1 s.2 n y,()),()):=by
  intro n
  induction n with
  |zero =>
   intro i y hi
   refine aK (j:=0) (by kernel_rfl) ((H7 _ _ _).trans ?_)
   exact af (decide_eq_false (show ¬((i:Int)<IntKind.wrap .i64 (((s.2.length:Nat):Int)+1)) by rw[hw];omega)) rfl
  |succ n ih =>
   intro i y hi
   refine aK (j:=0) (by kernel_rfl) ((H7 _ _ _).trans ?_)
   refine ae (decide_eq_true (show((i:Int)<IntKind.wrap .i64 (((s.2.length:Nat):Int)+1)) by rw[hw];omega)) ?_
   refine aa (QY hG s.1 y hs) ?_
   rw[res]
   have h1:(Po zI (fN s.1 y)).2.1=(fN s.1 y).isSome:=IA _ _
   cases ha:(fN s.1 y).isSome
   ·rw[if_neg (by simp)]
    refine af (h1.trans ha) ?_
    refine aa (Wh hG s.2 y (by omega)) ?_
    cases hf:la s.2 y with
    |none=>exact ae rfl rfl
    |some z =>
     refine af rfl ?_
     have:=ih (i+1) z (by omega)
     have e:IntKind.wrap .i64 ((i:Int)+1)=((i+1:Nat):Int):=by rw[wrap_small (by omega) (by omega)];rfl
     rw[←e]at this
     exact this
   ·rw[if_pos rfl]
    exact ae (h1.trans ha) rfl
 exact loop (s.2.length+1) 0 x (by omega)
theorem Wj(hG:HG G)(s:StateT)(c:tq)(hs:Sm s.1)(hg:s.2.length≤50000000):FX G 180 Ea ((s,c,()),())=some (bO s c,()):=by
 refine aJ (fn:=Tryz.f180) (hG _ _ rfl) (by kernel_rfl) (by kernel_rfl) ((Uu _ _ _).trans ?_)
 refine aa (Wg hG s.1 c.1 hs) ?_
 unfold bO
 cases hf:ck s.1 c.1 with
 |none=>exact ae rfl rfl
 |some v =>
  refine af rfl ?_
  refine aa (Wi hG s c.2 hs hg) ?_
  refine aa (By hG v.2.1 (resolve s c.2) (by have:=hs.r v (fH hf);omega)) ?_
  show _=some (((c.1,CR s c v),((0:Int),())),())
  unfold CR
  by_cases hm:resolve s c.2∈v.2.1
  ·rw[if_pos hm]
   exact aU (decide_eq_true hm) rfl
  ·rw[if_neg hm]
   exact aU (decide_eq_false hm) rfl
def Ho(G:(f:FuncId)→(g:aL)→Option (g.A→Option g.B)):Prop:=∀d,Wf d→FX G 172 yC ((d,()),())=some ((decide (nX d=0),()),())
theorem IK{l:List aj}{e:List an}{c:tq}{v:aj}(hs:bQ l)(hf:aN l c.1=some v)(x:ab):l.set (bh l c.1) (v.1,(oL v.2.1 c.2 x,v.2.2))=(b6 (l,e) c x).1:=by
 rw[G8 hs (cM hs hf)]
 have hi:=jS hf
 have hm:=fH hf
 unfold b6 Vs.bW
 rw[←hi,jo (d:=(l,e)) hs hm]
theorem zN{d:ak}(h:Wf d):nP d.1 d.2=true:=by
 unfold nP
 have h1:=h.nv;have h2:=h.ne
 simp only[Bool.and_eq_true,decide_eq_true_eq,List.all_eq_true]
 exact⟨by omega,by omega,fun v hv=>by have:=h.ve v hv;omega⟩
theorem PF(hG:HG G)(hp:Ho G)(o:aO):fO G o:=by
 intro s h hm KU
 have Oy:=h.d.nv;have aV:=h.d.ne;have hn:=h.n
 have PB:=h.d.small
 have bD:=M0 hm
 have start:∀(e:Int) (w:az),dr 154 nQ Tryz.f154 (FX G) (LX G 154 nQ Tryz.f154) ((o,()),(aD s,()))=some ((e,()),(w,()))→FX G 154 nQ ((o,()),(aD s,()))=some ((e,()),(w,())):=fun e w a =>
  aJ (fn:=Tryz.f154) (hG _ _ rfl) (by kernel_rfl) (by kernel_rfl) a
 have f110:=QP hG (aD s) (ba o) h.d.se (by show s.1.2.length≤_;omega)
 unfold rB
 cases hf:(aQ s.1.2 (ba o)).isSome with
 |true =>
  have e1:rD (aD s) (ba o)=(12,aD s):=if_pos hf
  rw[e1]at f110
  refine⟨12,aD s,start _ _ ((RM _ _ _).trans (ae (zN h.d) (aa f110 (ae rfl rfl)))),?_⟩
  rw[if_pos (show(mO s.1 (ba o)).isSome=true from hf)];rfl
 |false =>
 rw[if_neg (show ¬(mO s.1 (ba o)).isSome=true by show ¬(aQ s.1.2 (ba o)).isSome=true;rw[hf];simp)]
 by_cases Wl:40≤s.1.2.length
 ·have e1:rD (aD s) (ba o)=(3,aD s):=(if_neg (show ¬(aQ s.1.2 (ba o)).isSome=true by rw[hf];simp)).trans (if_pos Wl)
  rw[e1]at f110
  refine⟨3,aD s,start _ _ ((RM _ _ _).trans (ae (zN h.d) (aa f110 (ae rfl rfl)))),?_⟩
  rw[if_pos Wl];rfl
 rw[if_neg Wl]
 obtain⟨E,hE⟩:∃E,E=eR (ba o,(e0,0)) s.1.2:=⟨_,rfl⟩
 have e1:rD (aD s) (ba o)=(0,(s.1.1,(E,(s.2,())))):=by rw[hE];exact(if_neg (show ¬(aQ s.1.2 (ba o)).isSome=true by rw[hf];simp)).trans (if_neg Wl)
 rw[e1]at f110
 obtain⟨x,hx⟩:∃x:ab,x=(ba o,0):=⟨_,rfl⟩
 obtain⟨y,hy⟩:∃y:ab,y=(ba o,1):=⟨_,rfl⟩
 have f111:FX G 179 yy ((ba o,()),())=some ((x,y,()),()):=by
  rw[hx,hy];exact aJ (fn:=Tryz.f179) (hG _ _ rfl) (by kernel_rfl) (by kernel_rfl) (QD _ _ _)
 have f112:=fun c:tq=>Wj hG s c h.d.sm (by omega)
 have go:∀(e:Int) (w:az),LX G 154 nQ Tryz.f154 kV (bA Tryz.prog 154 0) (((2:Int),((0:Int),())),(((s.1.1,(E,(s.2,()))),((s,()),((x,()),()))),([x,y],([oA o,oB o],()))))=some ((e,()),(w,()))→FX G 154 nQ ((o,()),(aD s,()))=some ((e,()),(w,())):=fun e w a =>
  start _ _ ((RM _ _ _).trans (ae (zN h.d) (aa f110 (af rfl (aa f111 a)))))
 by_cases hA:(bO s (oA o)).2.1=0
 case neg =>
  rw[if_pos hA]
  have aas:bO s (oA o)=(zC,(13,())):=by
   unfold bO at hA ⊢
   cases hv:ck s.1 (oA o).1 with
   |none=>rfl
   |some v=>rw[hv]at hA;exact absurd rfl hA
  refine⟨13,(s.1.1,(E,(s.2,()))),go _ _ ?_,rfl⟩
  refine aK (j:=0) (by kernel_rfl) ((uO _ _ _).trans ?_)
  refine ae rfl (ae rfl (aa (a:=oA o) rfl (aa (f112 (oA o)) ?_)))
  rw[aas]
  exact ae rfl rfl
 rw[if_neg (fun k=>k hA)]
 obtain⟨va,ca⟩:=oi hA
 obtain⟨cA,hcA⟩:∃c:tq,c=(bO s (oA o)).1:=⟨_,rfl⟩
 have eA:bO s (oA o)=(cA,(0,())):=by
  rw[hcA]
  have:(bO s (oA o)).2=(0,()):=by
   have h1:(bO s (oA o)).2=((bO s (oA o)).2.1,()):=rfl
   rw[h1,hA]
  rw[←this]
 have cAv:(aN s.1.1 cA.1).isSome=true:=by rw[hcA,ca];exact va
 obtain⟨v1,s5⟩:=Option.isSome_iff_exists.1 cAv
 have Sj:=fH s5
 obtain⟨d1,Ki⟩:∃d1:ak,d1=b6 (s.1.1,E) cA x:=⟨_,rfl⟩
 have aau:s.1.1.set (bh s.1.1 cA.1) (v1.1,(oL v1.2.1 cA.2 x,v1.2.2))=d1.1:=by rw[Ki];exact IK h.d.sv s5 x
 have QZ:bQ d1.1:=by rw[Ki];exact h.d.sv.re _ _
 have Xs:=(List.getElem?_eq_some_iff.1 (cM h.d.sv s5)).1
 have Q0:∀v∈d1.1,v.2.1.length≤50000000:=fun v hv=>by
  rw[Ki]at hv
  obtain⟨w,hw,rfl⟩:=List.mem_map.1 (show v∈s.1.1.map (uU cA.1 (oL (cX (s.1.1,E) cA.1) cA.2 x)) from hv)
  have h1:=h.d.ve w hw
  unfold uU
  split
  ·have h2:=vX (cX (s.1.1,E) cA.1) cA.2 x
   have h3:(cX (s.1.1,E) cA.1).length≤80:=by
    rw[←jS s5,jo (d:=(s.1.1,E)) h.d.sv Sj]
    exact h.d.ve v1 Sj
   show(oL (cX (s.1.1,E) cA.1) cA.2 x).length≤50000000
   omega
  ·omega
 have d1l:d1.1.length=s.1.1.length:=by rw[Ki];exact dZ _ _ _
 have Q1:∀(e:Int) (w:az),LX G 154 nQ Tryz.f154 kV (bA Tryz.prog 154 0) (((2:Int),((1:Int),())),(((d1.1,(E,(s.2,()))),((s,()),((x,()),()))),([x,y],([oA o,oB o],()))))=some ((e,()),(w,()))→FX G 154 nQ ((o,()),(aD s,()))=some ((e,()),(w,())):=fun e w a=>by
  refine go _ _ ?_
  refine aK (j:=0) (by kernel_rfl) ((uO _ _ _).trans ?_)
  refine ae rfl (ae rfl (aa (a:=oA o) rfl (aa (f112 (oA o)) ?_)))
  rw[eA]
  refine af rfl (af rfl ?_)
  refine aa (oF hG (s.1.1,(E,(s.2,()))) cA.1 h.d.sv PB.n) ?_
  refine ae (dD (jP _) (bG Xs)) (aa (cM h.d.sv s5) ?_)
  refine ae rfl (aa (a:=x) rfl ?_)
  refine aa (MY hG v1.2.1 cA.2 x (PB.r v1 Sj)) ?_
  refine aa (cM h.d.sv s5) ?_
  have key:∀a1:List aj,a1=d1.1→LX G 154 nQ Tryz.f154 kV (bA Tryz.prog 154 0) (((2:Int),((1:Int),())),(((a1,(E,(s.2,()))),((s,()),((x,()),()))),([x,y],([oA o,oB o],()))))=some ((e,()),(w,())):=fun a1 BS=>by subst BS;exact a
  exact key _ aau
 by_cases hB:(bO s (oB o)).2.1=0
 case neg =>
  rw[if_pos hB]
  have aav:bO s (oB o)=(zC,(13,())):=by
   unfold bO at hB ⊢
   cases hv:ck s.1 (oB o).1 with
   |none=>rfl
   |some v=>rw[hv]at hB;exact absurd rfl hB
  refine⟨13,(d1.1,(E,(s.2,()))),Q1 _ _ ?_,rfl⟩
  refine aK (j:=0) (by kernel_rfl) ((uO _ _ _).trans ?_)
  refine ae rfl (ae rfl (aa (a:=oB o) rfl (aa (f112 (oB o)) ?_)))
  rw[aav]
  exact ae rfl rfl
 rw[if_neg (fun k=>k hB)]
 obtain⟨vb,cb⟩:=oi hB
 obtain⟨cB,Wm⟩:∃c:tq,c=if(ck s.1 (oB o).1).isSome=true∧(oB o).2=(ba o,0) then oB o else(bO s (oB o)).1:=⟨_,rfl⟩
 have eB:bO s (oB o)=((bO s (oB o)).1,(0,())):=by
  have:(bO s (oB o)).2=(0,()):=by
   have h1:(bO s (oB o)).2=((bO s (oB o)).2.1,()):=rfl
   rw[h1,hB]
  rw[←this]
 have cB1:cB.1=(oB o).1:=by rw[Wm];split;rfl;exact cb
 have cBv:(aN d1.1 cB.1).isSome=true:=by
  rw[Ki]
  exact tS _ (by rw[cB1];exact vb)
 obtain⟨v2,vx⟩:=Option.isSome_iff_exists.1 cBv
 have Wn:=fH vx
 have wD:=(List.getElem?_eq_some_iff.1 (cM QZ vx)).1
 obtain⟨d2,KQ⟩:∃d2:ak,d2=b6 d1 cB y:=⟨_,rfl⟩
 have PH:d1.1.set (bh d1.1 cB.1) (v2.1,(oL v2.2.1 cB.2 y,v2.2.2))=d2.1:=by rw[KQ];exact IK (e:=d1.2) QZ vx y
 have Q2:mR s o=d2:=by
  rw[KQ,Ki,hcA,Wm,hx,hy,hE];rfl
 have hE2:d2.2=E:=by rw[KQ,Ki];rfl
 have hwf:Wf d2:=by
  rw[←Q2]
  unfold mR
  have hn0:aQ s.1.2 (ba o)=none:=by simpa using hf
  refine h.d.link bD hn0 Wl (by rw[ca];exact va) ?_
  rw[←Wm,cB1];exact vb
 have last:∀(e:Int) (w:az),LX G 154 nQ Tryz.f154 kV (bA Tryz.prog 154 0) (((2:Int),((2:Int),())),(((d2.1,(E,(s.2,()))),((s,()),((x,()),()))),([x,y],([oA o,oB o],()))))=some ((e,()),(w,()))→FX G 154 nQ ((o,()),(aD s,()))=some ((e,()),(w,())):=fun e w a=>by
  refine Q1 _ _ ?_
  refine aK (j:=0) (by kernel_rfl) ((uO _ _ _).trans ?_)
  refine ae rfl (ae rfl (aa (a:=oB o) rfl (aa (f112 (oB o)) ?_)))
  rw[eB]
  have key:∀a2:List aj,a2=d2.1→LX G 154 nQ Tryz.f154 kV (bA Tryz.prog 154 0) (((2:Int),((2:Int),())),(((a2,(E,(s.2,()))),((s,()),((x,()),()))),([x,y],([oA o,oB o],()))))=some ((e,()),(w,())):=fun a2 AI=>by subst AI;exact a
  refine af rfl (ae rfl ?_)
  have oH:=EI (oB o).2 x
  by_cases Ti:(oB o).2=x
  ·have ecB:cB=oB o:=by rw[Wm];exact if_pos ⟨vb,Ti.trans hx⟩
   refine ae (oH.trans (decide_eq_true Ti)) ?_
   rw[ecB]at vx wD PH
   refine aa (oF hG (d1.1,(E,(s.2,()))) (oB o).1 QZ (by show d1.1.length≤_;omega)) ?_
   refine ae (dD (jP _) (bG wD)) (aa (cM QZ vx) ?_)
   refine ae rfl (aa (a:=y) rfl ?_)
   refine aa (MY hG v2.2.1 (oB o).2 y (Q0 v2 Wn)) ?_
   refine aa (cM QZ vx) ?_
   exact key _ PH
  ·have ecB:cB=(bO s (oB o)).1:=by rw[Wm];exact if_neg (fun k=>Ti (k.2.trans hx.symm))
   refine af (oH.trans (decide_eq_false Ti)) ?_
   rw[ecB]at vx wD PH
   refine aa (oF hG (d1.1,(E,(s.2,()))) (bO s (oB o)).1.1 QZ (by show d1.1.length≤_;omega)) ?_
   refine ae (dD (jP _) (bG wD)) (aa (cM QZ vx) ?_)
   refine ae rfl (aa (a:=y) rfl ?_)
   refine aa (MY hG v2.2.1 (bO s (oB o)).1.2 y (Q0 v2 Wn)) ?_
   refine aa (cM QZ vx) ?_
   exact key _ PH
 have f114:=hp d2 hwf
 rw[Q2]
 have e2:(d2.1,E)=d2:=by rw[←hE2]
 by_cases hg:nX d2=0
 ·rw[if_neg (fun k=>k hg)]
  refine⟨0,(d2.1,(E,(s.2,()))),last _ _ ?_,?_⟩
  ·refine aK (j:=0) (by kernel_rfl) ((uO _ _ _).trans ?_)
   refine af rfl ?_
   have key:∀q:ak,q=d2→((FX G 172 yC ((q,()),())).bind fun(Es:((Bool×Unit)×Unit))=>cond (not Es.1.1) (some (((15:Int),()),((d2.1,(E,(s.2,()))),()))) (some (((0:Int),()),((d2.1,(E,(s.2,()))),()))))=some (((0:Int),()),((d2.1,(E,(s.2,()))),())):=fun q hq=>by
    subst hq
    exact aa f114 (aU (decide_eq_true hg) rfl)
   exact key _ e2
  ·show(wZ (d2.1,(E,(s.2,()))),((0:Int),()))=((d2,s.2),(0,()))
   show(((d2.1,E),s.2),((0:Int),()))=((d2,s.2),(0,()))
   rw[e2]
 ·rw[if_pos hg]
  refine⟨15,(d2.1,(E,(s.2,()))),last _ _ ?_,rfl⟩
  refine aK (j:=0) (by kernel_rfl) ((uO _ _ _).trans ?_)
  refine af rfl ?_
  have key:∀q:ak,q=d2→((FX G 172 yC ((q,()),())).bind fun(Es:((Bool×Unit)×Unit))=>cond (not Es.1.1) (some (((15:Int),()),((d2.1,(E,(s.2,()))),()))) (some (((0:Int),()),((d2.1,(E,(s.2,()))),()))))=some (((15:Int),()),((d2.1,(E,(s.2,()))),())):=fun q hq=>by
   subst hq
   exact aa f114 (aU (decide_eq_false hg) rfl)
  exact key _ e2
end Go.Vs
namespace Go.Vs
open Go.Proofs
variable {G:(f:FuncId)→(g:aL)→Option (g.A→Option g.B)}
theorem Wo(hG:HG G)(row:List ab)(d:ab)(hl:row.length≤100000000):FX G 261 Em ((row,d,()),())=some (Oj (iB row d 1),()):=by
 refine aJ (fn:=Tryz.f261) (hG _ _ rfl) (by kernel_rfl) (by kernel_rfl) ((Vd _ _ _).trans ?_)
 have key:FX G 167 yH ((row,(d,((1:Int),()))),())=some (Oj (iB row d 1),()):=by
  refine aJ (fn:=Tryz.f167) (hG _ _ rfl) (by kernel_rfl) (by kernel_rfl) ((QE _ _ _).trans ?_)
  refine aa (zi (hG _ _ rfl) row d (by omega)) ?_
  unfold iB
  by_cases hd:d∈row
  ·rw[if_pos hd]
   obtain⟨k,h1,h2,h3⟩:=kZ hd
   have aE:=(List.getElem?_eq_some_iff.1 h2).1
   refine af (decide_eq_false (show ¬idx d row 0<0 by omega)) ?_
   refine af (MJ hd) ?_
   have O4:IntKind.wrap .i64 (idx d row 0+1)=((k+1:Nat):Int):=by rw[h1,wrap_small (by omega) (by omega)];rfl
   have R6:(k+1)%row.length<row.length:=Nat.mod_lt _ (by omega)
   have hx:=List.getElem?_eq_getElem R6
   refine aa (show cQ row (Int.tmod (IntKind.wrap .i64 (idx d row 0+1)) ((row.length:Nat):Int))=some row[(k+1)%row.length] by rw[O4,EJ];exact bN hx) ?_
   rw[h1,Int.toNat_natCast,hx];rfl
  ·rw[if_neg hd]
   exact ae (decide_eq_true (tN.2 hd)) rfl
 refine aa key ?_
 rfl
def Fj(x:ab):List aj→Option ab
 |[]=>none
 |v::r=>if x∈v.2.1 then iB v.2.1 x 1 else Fj x r
theorem IL{l:List aj}(h:Rw l){v:aj}{x:ab}(hv:v∈l)(hx:x∈v.2.1):∀r,(∀u∈r,u∈l)→v∈r→Fj x r=iB v.2.1 x 1
 |[],_,k=>by cases k
 |u::r,hs,k=>by
  rw[Fj]
  by_cases hu:x∈u.2.1
  ·rw[if_pos hu,h.one hv (hs u List.mem_cons_self) hx hu]
  ·rw[if_neg hu]
   rcases List.mem_cons.1 k with e|k
   ·rw[e]at hx;exact absurd hx hu
   ·exact IL h hv hx r (fun w hw=>hs w (List.mem_cons_of_mem _ hw)) k
theorem BT{x:ab}:∀{l:List aj},x∉aq l→Fj x l=none
 |[],_=>rfl
 |v::r,h=>by
  rw[jl,List.mem_append]at h
  rw[Fj,if_neg (fun k=>h (.inl k))]
  exact BT fun k=>h (.inr k)
theorem Hq{d:ak}(h:Rw d.1)(x:ab):Fj x d.1=pR d x:=by
 by_cases hx:x∈aq d.1
 ·obtain⟨v,hv,j0⟩:=bm.1 hx
  rw[zB h hv j0]
  exact IL h hv j0 d.1 (fun _ k=>k) hv
 ·rw[BT hx]
  unfold pR fN
  rw[EV hx]
theorem Wp(hG:HG G)(d:ak)(x:ab)(hs:Sm d)(h:Rw d.1):FX G 258 vW ((d,x,()),())=some (Oj (pR d x),()):=by
 have hv:=hs.v
 rw[←Hq h x]
 refine aJ (fn:=Tryz.f258) (hG _ _ rfl) (by kernel_rfl) (by kernel_rfl) ((Va _ _ _).trans ?_)
 have loop:∀(n i:Nat),i+n=d.1.length→LX G 258 vW Tryz.f258 tK (bA Tryz.prog 258 0) ((d.1,(((d.1.length:Nat):Int),((i:Int),()))),(((x,()),((zD,()),())),()))=some (Oj (Fj x (d.1.drop i)),()):=by
  intro n
  induction n with
  |zero =>
   intro i hi
   refine aK (j:=0) (by kernel_rfl) ((Ij _ _ _).trans ?_)
   refine af (decide_eq_false (show ¬((i:Int)<((d.1.length:Nat):Int)) by omega)) ?_
   rw[List.drop_eq_nil_of_le (by omega)];rfl
  |succ n ih =>
   intro i hi
   have aE:i<d.1.length:=by omega
   refine aK (j:=0) (by kernel_rfl) ((Ij _ _ _).trans ?_)
   refine ae (bG aE) (aa (bN (List.getElem?_eq_getElem aE)) ?_)
   refine aa (Wo hG d.1[i].2.1 x (by have:=hs.r _ (List.getElem_mem aE);omega)) ?_
   rw[List.drop_eq_getElem_cons aE,Fj]
   by_cases he:x∈d.1[i].2.1
   ·rw[if_pos he]
    unfold iB
    rw[if_pos he]
    obtain⟨k,h1,h2,h3⟩:=kZ he
    have hl:=(List.getElem?_eq_some_iff.1 h2).1
    have hm:((idx x d.1[i].2.1 0).toNat+1)%d.1[i].2.1.length<d.1[i].2.1.length:=Nat.mod_lt _ (by omega)
    rw[List.getElem?_eq_getElem hm]
    exact ae rfl rfl
   ·rw[if_neg he]
    unfold iB
    rw[if_neg he]
    refine af rfl ?_
    have:=ih (i+1) (by omega)
    rw[←aP aE (by omega)]at this
    exact this
 have:=loop d.1.length 0 (by omega)
 rw[List.drop_zero]at this
 exact this
theorem at_mem{d:ak}{x:ab}(h:(fN d x).isSome=true):x∈aq d.1:=by
 apply Classical.byContradiction
 intro k
 unfold fN at h
 rw[EV k]at h
 cases h
theorem Wq(hG:HG G)(d:ak)(x:ab)(h:Wf d):FX G 255 Bq ((d,x,()),())=some (Oj (MK d x),()):=by
 have hs:=h.sm
 refine aJ (fn:=Tryz.f255) (hG _ _ rfl) (by kernel_rfl) (by kernel_rfl) ((U8 _ _ _).trans ?_)
 refine aa (QY hG d x hs) ?_
 have h1:(Po zI (fN d x)).2.1=(fN d x).isSome:=IA _ _
 unfold MK
 cases ha:(fN d x).isSome
 ·rw[if_neg (by simp)]
  exact aU (h1.trans ha) rfl
 ·rw[if_pos rfl]
  refine aU (h1.trans ha) ?_
  refine aa (E1 (hG _ _ rfl) x (h.side (at_mem ha))) ?_
  exact aa (Wp hG d (ar x) hs h.rw) rfl
theorem Wr(hG:HG G)(d:ak)(hs:Sm d):FX G 249 tx ((d,()),())=some ((iC d.2,()),()):=by
 have he:=hs.e
 refine aJ (fn:=Tryz.f249) (hG _ _ rfl) (by kernel_rfl) (by kernel_rfl) ((U7 _ _ _).trans ?_)
 have loop:∀(n i:Nat) (out:List ab),i+n=d.2.length→out.length=2*i→LX G 249 tx Tryz.f249 tH (bA Tryz.prog 249 0) ((d.2,(((d.2.length:Nat):Int),((i:Int),()))),((),(out,())))=some ((out++iC (d.2.drop i),()),()):=by
  intro n
  induction n with
  |zero =>
   intro i out hi ho
   refine aK (j:=0) (by kernel_rfl) ((Ic _ _ _).trans ?_)
   refine af (decide_eq_false (show ¬((i:Int)<((d.2.length:Nat):Int)) by omega)) ?_
   rw[List.drop_eq_nil_of_le (by omega)]
   show some ((out,()),())=some ((out++[],()),())
   rw[List.append_nil]
  |succ n ih =>
   intro i out hi ho
   have aE:i<d.2.length:=by omega
   refine aK (j:=0) (by kernel_rfl) ((Ic _ _ _).trans ?_)
   refine ae (bG aE) (aa (bN (List.getElem?_eq_getElem aE)) ?_)
   refine aa (E1 (hG _ _ rfl) (d.2[i].1,0) (.inl rfl)) ?_
   refine ae (fits (by show out.length+2≤_;omega)) ?_
   have:=ih (i+1) (out++[(d.2[i].1,0),(d.2[i].1,1)]) (by omega) (by simp[ho];omega)
   rw[List.drop_eq_getElem_cons aE]
   rw[←aP aE (by omega),List.append_assoc]at this
   exact this
 exact loop d.2.length 0 [] (by omega) rfl
theorem Ns(hG:HG G)(l:List aj)(hl:l.length≤50000000):FX G 240238 jL ((l,()),())=some ((((al l:Nat):Int),()),()):=by
 refine aJ (fn:=Tryz.f238) (hG _ _ rfl) (by kernel_rfl) (by kernel_rfl) ((Mm _ _ _).trans ?_)
 have loop:∀(n i m:Nat),i+n=l.length→m≤i→LX G 240238 jL Tryz.f238 jg (bA Tryz.prog 238 0) (((m:Int),(l,(((l.length:Nat):Int),((i:Int),())))),((),()))=some ((((m+al (l.drop i):Nat):Int),()),()):=by
  intro n
  induction n with
  |zero =>
   intro i m hi hm
   refine aK (j:=0) (by kernel_rfl) ((yT _ _ _).trans ?_)
   refine af (decide_eq_false (show ¬((i:Int)<((l.length:Nat):Int)) by omega)) ?_
   rw[List.drop_eq_nil_of_le (by omega)];rfl
  |succ n ih =>
   intro i m hi hm
   have aE:i<l.length:=by omega
   have aax:FX G 239 Ek ((l[i],()),())=some ((l[i].2.1.isEmpty,()),()):=by
    refine aJ (fn:=Tryz.f239) (hG _ _ rfl) (by kernel_rfl) (by kernel_rfl) ((U6 _ _ _).trans ?_)
    have:(((l[i].2.1.length:Nat):Int)==0)=l[i].2.1.isEmpty:=by cases l[i].2.1<;>simp;omega
    exact congrArg (fun b:Bool=>some ((b,()),())) this
   refine aK (j:=0) (by kernel_rfl) ((yT _ _ _).trans ?_)
   refine ae (bG aE) (aa (bN (List.getElem?_eq_getElem aE)) ?_)
   refine aa aax ?_
   rw[List.drop_eq_getElem_cons aE]
   unfold al
   rw[List.countP_cons]
   cases hb:l[i].2.1.isEmpty
   ·refine af rfl ?_
    have:=ih (i+1) m (by omega) (by omega)
    rw[←aP aE (by omega)]at this
    exact this
   ·refine ae rfl ?_
    have:=ih (i+1) (m+1) (by omega) (by omega)
    rw[←aP aE (by omega),←aP (i:=m) (n:=l.length) (by omega) (by omega)]at this
    refine this.trans ?_
    refine congrArg (fun q:Nat=>some ((((q:Nat):Int),()),())) ?_
    unfold al
    simp;omega
 have:=loop l.length 0 0 (by omega) (by omega)
 rw[List.drop_zero,Nat.zero_add]at this
 exact this
end Go.Vs
namespace Go.Vs
open Go.Proofs
variable {G:(f:FuncId)→(g:aL)→Option (g.A→Option g.B)}
def Fo(g:List Nat):Prop:=∀(i x:Nat),g[i]? = some x→x≤i
def root(g:List Nat)(i:Nat):Nat :=
 match g[i]? with
 |some x=>if h:x<i then root g x else i
 |none=>i
termination_by i
theorem db{g:List Nat}{i x:Nat}(h:g[i]? = some x):root g i=if x<i then root g x else i:=by
 rw[root,h];simp
theorem kq{g:List Nat}{i:Nat}(h:g[i]? = none):root g i=i:=by rw[root,h]
theorem IM(g:List Nat):∀i,root g i≤i:=by
 intro i
 induction i using Nat.strongRecOn with
 |_ i ih =>
  cases h:g[i]? with
  |none=>rw[kq h];exact Nat.le_refl _
  |some x =>
   rw[db h]
   split
   ·rename_i hx;have:=ih x hx;omega
   ·exact Nat.le_refl _
theorem Fk{g:List Nat}(hf:Fo g):∀i,i<g.length→g[root g i]? = some (root g i):=by
 intro i
 induction i using Nat.strongRecOn with
 |_ i ih =>
  intro hi
  have h:=List.getElem?_eq_getElem hi
  rw[db h]
  split
  ·rename_i hx;exact ih _ hx (by omega)
  ·have:=hf i _ h
   rw[h];congr 1;omega
theorem kr{g:List Nat}{i:Nat}(h:g[i]? = some i):root g i=i:=by rw[db h,if_neg (by omega)]
theorem Fo.set{g:List Nat}(hf:Fo g){i y:Nat}(h:y≤i):Fo (g.set i y):=fun j x hj=>by
 rw[List.getElem?_set]at hj
 split at hj
 ·rename_i e;subst e
  split at hj
  ·cases hj;exact h
  ·cases hj
 ·exact hf j x hj
theorem Hr{g:List Nat}(hf:Fo g){i x y:Nat}(hi:g[i]? = some x)(hx:g[x]? = some y)(aE:x<i):∀j,root (g.set i y) j=root g j:=by
 have hyx:=hf x y hx
 have ng:=(List.getElem?_eq_some_iff.1 hi).1
 intro j
 induction j using Nat.strongRecOn with
 |_ j ih =>
  by_cases e:j=i
  ·subst e
   have h1:(g.set j y)[j]? = some y:=by rw[List.getElem?_set];simp[ng]
   rw[db h1,if_pos (by omega),ih y (by omega),db hi,if_pos aE,db hx]
   split
   ·rfl
   ·have:y=x:=by omega
    subst this;exact kr hx
  ·have h1:(g.set i y)[j]? = g[j]? := by rw[List.getElem?_set,if_neg (fun k=>e k.symm)]
   cases h:g[j]? with
   |none=>rw[kq h,kq (h1.trans h)]
   |some z =>
    rw[db h,db (h1.trans h)]
    split
    ·rename_i hz;exact ih z hz
    ·rfl
theorem Kz{g:List Nat}{a b:Nat}(ha:g[a]? = some a)(hb:g[b]? = some b):∀j,root (g.set (max a b) (min a b)) j=if root g j=max a b then min a b else root g j:=by
 have hm:g[max a b]? = some (max a b):=by rcases Nat.le_total a b with h|h<;>simp[Nat.max_eq_right,Nat.max_eq_left,h,ha,hb]
 have hn:g[min a b]? = some (min a b):=by rcases Nat.le_total a b with h|h<;>simp[Nat.min_eq_right,Nat.min_eq_left,h,ha,hb]
 have Zn:=(List.getElem?_eq_some_iff.1 hm).1
 have hle:min a b≤max a b:=by omega
 generalize max a b=M at *
 generalize min a b=m at *
 have aE:∀j,(g.set M m)[j]? = if j=M then some m else g[j]? := fun j=>by
  rw[List.getElem?_set]
  by_cases e:M=j
  ·subst e;simp[Zn]
  ·rw[if_neg e,if_neg (fun k=>e k.symm)]
 intro j
 induction j using Nat.strongRecOn with
 |_ j ih =>
  by_cases ej:j=M
  ·subst ej
   have h1:(g.set j m)[j]? = some m:=by rw[aE,if_pos rfl]
   rw[db h1,kr hm,if_pos rfl]
   by_cases e:m<j
   ·rw[if_pos e,ih m e,kr hn,if_neg (by omega)]
   ·rw[if_neg e];omega
  ·have h1:(g.set M m)[j]? = g[j]? := by rw[aE,if_neg ej]
   cases h:g[j]? with
   |none=>rw[kq h,kq (h1.trans h),if_neg ej]
   |some z =>
    rw[db h,db (h1.trans h)]
    by_cases hz:z<j
    ·rw[if_pos hz,if_pos hz];exact ih z hz
    ·rw[if_neg hz,if_neg hz,if_neg ej]
def fI(g:List Nat):List Int:=g.map fun n=>((n:Nat):Int)
theorem zO(g:List Nat):(fI g).length=g.length:=by simp[fI]
theorem sE{g:List Nat}{i x:Nat}(h:g[i]? = some x):(fI g)[Int.toNat (i:Int)]? = some (x:Int):=by simp[fI,h]
theorem Nt(g:List Nat)(i x:Nat):(fI g).set (Int.toNat (i:Int)) (x:Int)=fI (g.set i x):=by simp[fI,List.map_set]
theorem zP{g:List Nat}{i:Nat}(h:i<g.length):(decide ((0:Int)≤(i:Int))&&decide ((i:Int)<(((fI g).length:Nat):Int)))=true:=by
 rw[zO];exact dD (jP i) (bG h)
structure BU(g g':List Nat):Prop where
 f:Fo g'
 n:g'.length=g.length
 r:∀j,root g' j=root g j
theorem BU.trans{a b c:List Nat}(h:BU a b)(k:BU b c):BU a c:=⟨k.f,k.n.trans h.n,fun j=>(k.r j).trans (h.r j)⟩
theorem Nu(hG:HG G)(g:List Nat)(i:Nat)(hf:Fo g)(hi:i<g.length):∃g',BU g g'∧FX G 260 pN (((i:Int),()),(fI g,()))=some ((((root g i:Nat):Int),()),(fI g',())):=by
 have loop:∀(i:Nat) (g:List Nat),Fo g→i<g.length→∃g',BU g g'∧LX G 260 pN Tryz.f260 qv (bA Tryz.prog 260 0) (((i:Int),()),((),(fI g,())))=some ((((root g i:Nat):Int),()),(fI g',())):=by
  intro i
  induction i using Nat.strongRecOn with
  |_ i ih =>
   intro g hf hi
   have h:=List.getElem?_eq_getElem hi
   generalize g[i]=x at h
   have hxi:=hf i x h
   by_cases hx:x<i
   ·have h2:=List.getElem?_eq_getElem (show x<g.length by omega)
    generalize g[x]=y at h2
    have hyx:=hf x y h2
    have hs:=Hr hf h h2 hx
    have hf2:Fo (g.set i y):=hf.set (by omega)
    obtain⟨g',h3,h4⟩:=ih y (by omega) (g.set i y) hf2 (by rw[List.length_set];omega)
    refine⟨g',⟨h3.f,by rw[h3.n,List.length_set],fun j=>(h3.r j).trans (hs j)⟩,?_⟩
    refine aK (j:=0) (by kernel_rfl) ((Ik _ _ _).trans ?_)
    refine ae (zP hi) (aa (sE h) ?_)
    refine ae (show(((x:Nat):Int) != (i:Int))=true by rw[bne_iff_ne];omega) ?_
    refine ae (zP hi) (aa (sE h) ?_)
    refine ae (zP (show x<g.length by omega)) (aa (sE h2) ?_)
    refine ae (zP hi) (aa (sE h) ?_)
    have aay:=Nt g i y
    have key:∀f:List Int,f=fI (g.set i y)→cond ((decide ((0:Int)≤(i:Int)))&&(decide ((i:Int)<(((List.length f):Nat):Int)))) (((f)[(Int.toNat (i:Int))]?).bind fun(y5:Int)=>LX G 260 pN Tryz.f260 qv (bA Tryz.prog 260 0) ((y5,()),((),(f,())))) none=some ((((root g i:Nat):Int),()),(fI g',())):=fun f hf=>by
     subst hf
     refine ae (zP (by rw[List.length_set];exact hi)) (aa (sE (x:=y) (by rw[List.getElem?_set];simp[hi])) ?_)
     rw[h4,hs y,db h,if_pos hx,db h2]
     by_cases hy:y<x
     ·rw[if_pos hy]
     ·have:y=x:=by omega
      subst this;rw[if_neg (by omega),kr h2]
    exact key _ aay
   ·have:x=i:=by omega
    subst this
    refine⟨g,⟨hf,rfl,fun _=>rfl⟩,?_⟩
    refine aK (j:=0) (by kernel_rfl) ((Ik _ _ _).trans ?_)
    refine ae (zP hi) (aa (sE h) ?_)
    rw[kr h]
    exact af (by simp) rfl
 obtain⟨g',h1,h2⟩:=loop i g hf hi
 exact⟨g',h1,aJ (fn:=Tryz.f260) (hG _ _ rfl) (by kernel_rfl) (by kernel_rfl) ((Vc _ _ _).trans h2)⟩
def zQ(a b r:Nat):Nat:=if r=max a b then min a b else r
theorem Ws(hG:HG G)(g:List Nat)(i k:Nat)(hf:Fo g)(hi:i<g.length)(hk:k<g.length):∃g',Fo g'∧g'.length=g.length∧(∀j,root g' j=zQ (root g i) (root g k) (root g j))∧FX G 259 El (((i:Int),((k:Int),())),(fI g,()))=some ((),(fI g',())):=by
 obtain⟨g1,h1,e1⟩:=Nu hG g i hf hi
 obtain⟨g2,h2,e2⟩:=Nu hG g1 k h1.f (by rw[h1.n];exact hk)
 rw[h1.r k]at e2
 have hs:=h1.trans h2
 have ra:g2[root g i]? = some (root g i):=by
  have:=Fk hs.f i (by rw[hs.n];exact hi)
  rw[hs.r i]at this;exact this
 have rb:g2[root g k]? = some (root g k):=by
  have:=Fk hs.f k (by rw[hs.n];exact hk)
  rw[hs.r k]at this;exact this
 have hal:=(List.getElem?_eq_some_iff.1 ra).1
 have hbl:=(List.getElem?_eq_some_iff.1 rb).1
 have hm:max (root g i) (root g k)<g2.length:=by omega
 refine⟨g2.set (max (root g i) (root g k)) (min (root g i) (root g k)),hs.f.set (by omega),by rw[List.length_set,hs.n],fun j=>by rw[Kz ra rb j,hs.r j];rfl,?_⟩
 refine aJ (fn:=Tryz.f259) (hG _ _ rfl) (by kernel_rfl) (by kernel_rfl) ((Vb _ _ _).trans ?_)
 refine aa e1 (aa e2 ?_)
 have em:(max ((root g i:Nat):Int) ((root g k:Nat):Int):Int)=((max (root g i) (root g k):Nat):Int):=by omega
 have en:(min ((root g i:Nat):Int) ((root g k:Nat):Int):Int)=((min (root g i) (root g k):Nat):Int):=by omega
 have key:∀m n:Int,m=((max (root g i) (root g k):Nat):Int)→n=((min (root g i) (root g k):Nat):Int)→cond ((decide ((0:Int)≤m))&&(decide (m<(((List.length (fI g2)):Nat):Int)))) (((fI g2)[(Int.toNat m)]?).bind fun(y3:Int)=>(some ((),((List.set (fI g2) (Int.toNat m) n),())):Option (Unit×((List Int)×Unit)))) none=some ((),(fI (g2.set (max (root g i) (root g k)) (min (root g i) (root g k))),())):=fun m n OL F4=>by
  subst OL F4
  refine ae (zP hm) (aa (sE (List.getElem?_eq_getElem hm)) ?_)
  rw[Nt]
 exact key _ _ em en
end Go.Vs
namespace Go.Vs
open Go.Proofs
variable {G:(f:FuncId)→(g:aL)→Option (g.A→Option g.B)}
theorem Hs{α:Type}(x:ab)(es:List (ab×α)):rK b7 x es=es.findIdx? fun e=>decide (e.1=x):=by
 show List.findIdx? (fun e:ab×α=>((x.1.1==e.1.1.1)&&(x.1.2==e.1.1.2))&&(x.2==e.1.2)) es=_
 congr 1
 funext e
 rw[EI x e.1]
 by_cases h:x=e.1
 ·rw[decide_eq_true h,decide_eq_true h.symm]
 ·rw[decide_eq_false h,decide_eq_false (fun k=>h k.symm)]
def eE{β α:Type}[DecidableEq β](x:β):List (β×α)→Option α
 |[]=>none
 |e::r=>if e.1=x then some e.2 else eE x r
theorem Ht{β α:Type}[DecidableEq β](x:β):∀es:List (β×α),((es.findIdx? fun e=>decide (e.1=x)).bind fun i=>(es[i]?).map (·.2))=eE x es
 |[]=>rfl
 |e::r=>by
  have ih:=Ht x r
  rw[List.findIdx?_cons,eE]
  by_cases h:e.1=x
  ·rw[if_pos (decide_eq_true h),if_pos h];rfl
  ·rw[if_neg (by simpa using h),if_neg h,←ih]
   cases r.findIdx? fun e=>decide (e.1=x)<;>simp
theorem Nv{α:Type}(x:ab)(es:List (ab×α)):ia b7 x es=eE x es:=by
 have:=Ht x es
 rw[←Hs]at this
 exact this
theorem Nw{α:Type}{x:ab}(v:α){es:List (ab×α)}(h:x∉es.map (·.1)):lq b7 x v es=es++[(x,v)]:=by
 have e:rK b7 x es=none:=by
  rw[Hs,List.findIdx?_eq_none_iff]
  intro q hq
  exact decide_eq_false fun k=>h (List.mem_map.2 ⟨q,hq,k⟩)
 unfold lq
 split
 ·rename_i i k;rw[e]at k;cases k
 ·rfl
theorem Fl{β α:Type}[DecidableEq β]{x:β}{v:α}:∀{es:List (β×α)},(es.map (·.1)).Nodup→(x,v)∈es→eE x es=some v
 |[],_,h=>by cases h
 |e::r,hn,h=>by
  simp only[List.map_cons,List.nodup_cons]at hn
  rw[eE]
  rcases List.mem_cons.1 h with e1|h
  ·subst e1;rw[if_pos rfl]
  ·rw[if_neg (fun k=>hn.1 (by rw[k];exact List.mem_map.2 ⟨_,h,rfl⟩))]
   exact Fl hn.2 h
def gi:List aj→Nat→List (ab×Int)
 |[],_=>[]
 |v::r,i=>v.2.1.map (fun x=>(x,(i:Int)))++gi r (i+1)
theorem vi:∀(l:List aj) (i:Nat),(gi l i).map (·.1)=aq l
 |[],_=>rfl
 |v::r,i=>by
  have e:(v.2.1.map fun x=>(x,(i:Int))).map (·.1)=v.2.1:=by rw[List.map_map];exact List.map_id _
  rw[gi,jl,List.map_append,vi r,e]
theorem Fm:∀(a b:List aj) (i:Nat),gi (a++b) i=gi a i++gi b (i+a.length)
 |[],b,i=>rfl
 |v::r,b,i=>by
  rw[List.cons_append,gi,gi,Fm r b,List.append_assoc]
  congr 3
  simp;omega
theorem Fp{x:ab}{a:Int}:∀{l:List aj} {i:Nat},(x,a)∈gi l i→∃k v,l[k]? = some v∧a=((i+k:Nat):Int)∧x∈v.2.1
 |[],i,h=>by cases h
 |v::r,i,h=>by
  rw[gi]at h
  rcases List.mem_append.1 h with h|h
  ·obtain⟨y,hy,e⟩:=List.mem_map.1 h
   cases e
   exact⟨0,v,rfl,rfl,hy⟩
  ·obtain⟨k,u,h1,h2,h3⟩:=Fp h
   exact⟨k+1,u,by simpa using h1,by rw[h2];congr 1;omega,h3⟩
theorem IN{x:ab}:∀{l:List aj} {i k:Nat} {v:aj},l[k]? = some v→x∈v.2.1→(x,((i+k:Nat):Int))∈gi l i
 |v::r,i,0,u,h,hx=>by
  simp at h;subst h
  rw[gi];exact List.mem_append_left _ (List.mem_map.2 ⟨x,hx,rfl⟩)
 |v::r,i,k+1,u,h,hx=>by
  rw[gi]
  refine List.mem_append_right _ ?_
  have:=IN (i:=i+1) (k:=k) (by simpa using h) hx
  rwa [show i+1+k=i+(k+1) by omega]at this
theorem Nx(i:Nat):fI (List.range i)++[(i:Int)]=fI (List.range (i+1)):=by rw[List.range_succ];simp[fI]
section
variable {d:ak} {y:gh.B}
theorem PI(h:Wf d){i:Nat}(hi:i<d.1.length){f:List Int}{nn:Int}
  (next:LX G 256 gh Tryz.f256 qu (bA Tryz.prog 256 0) ((d.1,(nn,((IntKind.wrap .i64 ((i:Int)+1)),()))),((),(f,(gi (d.1.take (i+1)) 0,()))))=some y):∀(n j:Nat) (es:List (ab×Int)),j+n=d.1[i].2.1.length→es=gi (d.1.take i) 0++(d.1[i].2.1.take j).map (fun x=>(x,(i:Int))) →
  LX G 256 gh Tryz.f256 tI (bA Tryz.prog 256 1) (((i:Int),(d.1,(nn,((i:Int),(d.1[i].2.1,(((d.1[i].2.1.length:Nat):Int),((j:Int),()))))))),((),(f,(es,()))))=some y:=by
 have hr:=h.ve d.1[i] (List.getElem_mem hi)
 have et:d.1.take (i+1)=d.1.take i++[d.1[i]]:=(List.take_append_getElem hi).symm
 have ev:gi (d.1.take (i+1)) 0=gi (d.1.take i) 0++d.1[i].2.1.map (fun x=>(x,(i:Int))):=by
  rw[et,Fm]
  have:(d.1.take i).length=i:=by rw[List.length_take];omega
  rw[this,Nat.zero_add]
  congr 1
  show d.1[i].2.1.map (fun x=>(x,(i:Int)))++[]=_
  rw[List.append_nil]
 have nd:(aq (d.1.take i)++d.1[i].2.1).Nodup:=by
  have h1:=h.rw.n
  rw[←List.take_append_drop (i+1) d.1,et,mW,mW]at h1
  have e2:aq [d.1[i]]=d.1[i].2.1:=by rw[jl];exact List.append_nil _
  rw[e2]at h1
  exact(List.nodup_append.1 h1).1
 intro n
 induction n with
 |zero =>
  intro j es hj he
  refine aK (j:=1) (by kernel_rfl) ((Ig _ _ _).trans ?_)
  refine af (decide_eq_false (show ¬((j:Int)<((d.1[i].2.1.length:Nat):Int)) by omega)) ?_
  have e:d.1[i].2.1.take j=d.1[i].2.1:=List.take_of_length_le (by omega)
  rw[e,←ev]at he
  subst he
  exact next
 |succ n ih =>
  intro j es hj he
  have aE:j<d.1[i].2.1.length:=by omega
  refine aK (j:=1) (by kernel_rfl) ((Ig _ _ _).trans ?_)
  refine ae (bG aE) (aa (bN (List.getElem?_eq_getElem aE)) ?_)
  have Am:d.1[i].2.1[j]∉es.map (·.1):=by
   have e3:((d.1[i].2.1.take j).map fun x=>(x,(i:Int))).map (·.1)=d.1[i].2.1.take j:=by rw[List.map_map];exact List.map_id _
   rw[he,List.map_append,vi,e3,List.mem_append]
   rintro(k|k)
   ·exact(List.nodup_append.1 nd).2.2 _ k _ (List.getElem_mem aE) rfl
   ·obtain⟨q,hq,he⟩:=List.getElem_of_mem k
    have YR:q<j:=by rw[List.length_take]at hq;omega
    rw[List.getElem_take]at he
    have:=(List.getElem_inj (List.nodup_append.1 nd).2.1).1 he
    omega
  have:=ih (j+1) (lq b7 d.1[i].2.1[j] (i:Int) es) (by omega) (by
   rw[Nw _ Am,he,←List.take_append_getElem aE,List.map_append,List.append_assoc];rfl)
  rw[←aP aE (by omega)]at this
  exact this
theorem PJ(h:Wf d)
  (next:LX G 256 gh Tryz.f256 nR (bA Tryz.prog 256 2) ((gi d.1 0,()),((),(fI (List.range d.1.length),((none,gi d.1 0),()))))=some y):∀(n i:Nat),i+n=d.1.length →
  LX G 256 gh Tryz.f256 qu (bA Tryz.prog 256 0) ((d.1,(((d.1.length:Nat):Int),((i:Int),()))),((),(fI (List.range i),(gi (d.1.take i) 0,()))))=some y:=by
 have hn:=h.nv
 intro n
 induction n with
 |zero =>
  intro i hi
  have e:i=d.1.length:=by omega
  subst e
  refine aK (j:=0) (by kernel_rfl) ((Ie _ _ _).trans ?_)
  refine af (decide_eq_false (show ¬(((d.1.length:Nat):Int)<((d.1.length:Nat):Int)) by omega)) ?_
  rw[List.take_length]
  exact next
 |succ n ih =>
  intro i hi
  have aE:i<d.1.length:=by omega
  refine aK (j:=0) (by kernel_rfl) ((Ie _ _ _).trans ?_)
  refine ae (bG aE) (aa (bN (List.getElem?_eq_getElem aE)) ?_)
  refine ae (fits (by show(fI (List.range i)).length+1≤_;rw[zO];simp;omega)) ?_
  have nx:=ih (i+1) (by omega)
  rw[←aP aE (by omega),←Nx]at nx
  exact PI (G:=G) h aE nx d.1[i].2.1.length 0 _ (by omega) (by simp)
end
end Go.Vs
namespace Go.Vs
open Go.Proofs
variable {G:(f:FuncId)→(g:aL)→Option (g.A→Option g.B)}
theorem zR(a b:Nat):zQ a b a=min a b∧zQ a b b=min a b:=by
 unfold zQ
 constructor<;>split<;>omega
structure Wt(d:ak)(rem:List (ab×Int))(g:List Nat):Prop where
 f:Fo g
 n:g.length=d.1.length
 c:∀i,i<d.1.length→cH d (cp d i) (cp d (root g i))
 p:∀(z:ab) (i k:Nat),(z,(i:Int))∈gi d.1 0→(ar z,(k:Int))∈gi d.1 0→(z,(i:Int))∉rem→root g i=root g k
theorem tW{d:ak}(h:Wf d){z:ab}{a:Int}(hm:(z,a)∈gi d.1 0):∃i:Nat,i<d.1.length∧a=(i:Int)∧z∈aq d.1∧fN d z=some (cp d i):=by
 obtain⟨k,v,h1,h2,h3⟩:=Fp hm
 rw[Nat.zero_add]at h2
 have hv:=List.mem_of_getElem? h1
 refine⟨k,(List.getElem?_eq_some_iff.1 h1).1,h2,bm.2 ⟨v,hv,h3⟩,?_⟩
 rw[lT h1]
 exact mh h.rw hv h3
theorem Hu{d:ak}(h:Wf d){z:ab}(hz:z∈aq d.1):∃i:Nat,(z,(i:Int))∈gi d.1 0:=by
 obtain⟨v,hv,hx⟩:=bm.1 hz
 obtain⟨k,hk⟩:=List.getElem?_of_mem hv
 have:=IN (i:=0) hk hx
 rw[Nat.zero_add]at this
 exact⟨k,this⟩
theorem IP{d:ak}(h:Wf d){z:ab}{a:Int}(hm:(z,a)∈gi d.1 0):ia b7 z (gi d.1 0)=some a:=by
 rw[Nv]
 refine Fl ?_ hm
 rw[vi];exact h.rw.n
theorem Wt.same{d:ak}(h:Wf d){g:List Nat}(hg:Wt d [] g){a b:ID}(k:cH d a b):∀i j,i<d.1.length→j<d.1.length→cp d i=a→cp d j=b→root g i=root g j:=by
 induction k with
 |refl=>intro i j hi hj h1 h2;rw[iG h.sv hi hj (h1.trans h2.symm)]
 |tail _ s ih =>
  intro i j hi hj h1 h2
  obtain⟨z,hz,s1,s2⟩:=s
  obtain⟨m,hm⟩:=Hu h hz
  obtain⟨q,hq⟩:=Hu h (h.other hz)
  obtain⟨m',m1,m2,_,m3⟩:=tW h hm
  obtain⟨q',q1,q2,_,q3⟩:=tW h hq
  have em:m'=m:=by omega
  have eq:q'=q:=by omega
  subst em;subst eq
  rw[s1]at m3;rw[s2]at q3
  have r1:=ih i m' hi m1 h1 (Option.some.inj m3).symm
  have r2:=hg.p z m' q' hm hq (by simp)
  have ej:q'=j:=iG h.sv q1 hj ((Option.some.inj q3).symm.trans h2.symm)
  rw[r1,r2,ej]
theorem Wt.can{d:ak}(h:Wf d){g:List Nat}(hg:Wt d [] g):Ff d (fI ((List.range d.1.length).map (root g))):=by
 have l9:∀i,i<d.1.length→(fI ((List.range d.1.length).map (root g))).getD i 0=((root g i:Nat):Int):=fun i hi=>by
  unfold fI;simp[List.getD,hi]
 refine⟨⟨by rw[zO];simp,fun i hi=>⟨root g i,IM g i,l9 i hi,hg.c i hi⟩⟩,fun i hi j hj k=>?_⟩
 rw[l9 i hi,hg.same h k i j hi hj rfl rfl]
 have:=IM g j
 omega
theorem PL(hG:HG G){d:ak}(h:Wf d){g:List Nat}:∀(n i:Nat) (g':List Nat),i+n=d.1.length→Fo g'→g'.length=d.1.length→(∀j,root g' j=root g j) →
  LX G 256 gh Tryz.f256 tJ (bA Tryz.prog 256 3) ((((d.1.length:Nat):Int),((i:Int),())),((),(fI g',(fI ((List.range i).map (root g)),()))))=some ((fI ((List.range d.1.length).map (root g)),()),()):=by
 have Oy:=h.nv
 intro n
 induction n with
 |zero =>
  intro i g' hi h1 h2 h3
  have e:i=d.1.length:=by omega
  subst e
  refine aK (j:=3) (by kernel_rfl) ((Ii _ _ _).trans ?_)
  exact af (decide_eq_false (show ¬(((d.1.length:Nat):Int)<((d.1.length:Nat):Int)) by omega)) rfl
 |succ n ih =>
  intro i g' hi h1 h2 h3
  have aE:i<d.1.length:=by omega
  obtain⟨g2,s,e⟩:=Nu hG g' i h1 (by omega)
  refine aK (j:=3) (by kernel_rfl) ((Ii _ _ _).trans ?_)
  refine ae (bG aE) (aa e ?_)
  refine ae (fits (by show(fI _).length+1≤_;rw[zO];simp;omega)) ?_
  have:=ih (i+1) g2 (by omega) s.f (by rw[s.n,h2]) (fun j=>(s.r j).trans (h3 j))
  have e2:fI ((List.range (i+1)).map (root g))=fI ((List.range i).map (root g))++[((root g' i:Nat):Int)]:=by
   rw[List.range_succ,h3 i];simp[fI]
  rw[e2,←aP aE (by omega)]at this
  exact this
theorem PM(hG:HG G){d:ak}(h:Wf d):∀(n:Nat) (rem:List (ab×Int)) (g:List Nat) (o:Option (ab×Int)),rem.length=n→(∀e∈rem,e∈gi d.1 0)→Wt d rem g →
  LX G 256 gh Tryz.f256 nR (bA Tryz.prog 256 2) ((gi d.1 0,()),((),(fI g,((o,rem),()))))=some ((labels d,()),()):=by
 intro n
 induction n with
 |zero =>
  intro rem g o hn hr hg
  have e:rem=[]:=List.eq_nil_of_length_eq_zero hn
  subst e
  refine aK (j:=2) (by kernel_rfl) ((Ih _ _ _).trans ?_)
  refine ae rfl ?_
  have:=PL (G:=G) hG h (g:=g) d.1.length 0 g (by omega) hg.f hg.n (fun _=>rfl)
  rw[(hg.can h).uniq h (gL h)]at this
  have e2:((fI g).length:Int)=((d.1.length:Nat):Int):=by rw[zO,hg.n]
  rw[←e2]at this
  exact this
 |succ n ih =>
  intro rem g o hn hr hg
  refine aK (j:=2) (by kernel_rfl) ((Ih _ _ _).trans ?_)
  refine af (show rem.isEmpty=false by cases rem with|nil=>simp at hn|cons _ _=>rfl) ?_
  refine lK (show 0<rem.length by omega) fun j hj=>?_
  have hj':j<rem.length:=hj
  refine aa (List.getElem?_eq_getElem hj') ?_
  have hm:=hr _ (List.getElem_mem hj')
  generalize he:rem[j]=e at hm
  obtain⟨z,a⟩:=e
  obtain⟨i,hi,ha,hz,haz⟩:=tW h hm
  subst ha
  obtain⟨k,hk⟩:=Hu h (h.other hz)
  obtain⟨k',wq,ek,_,hak⟩:=tW h hk
  have ek':k'=k:=by omega
  subst ek'
  refine aa (E1 (hG _ _ rfl) z (h.side hz)) ?_
  have l9:ia b7 (ar z) (gi d.1 0)=some (k':Int):=IP h hk
  refine ae (show(ia b7 (ar z) (gi d.1 0)).isSome=true by rw[l9];rfl) ?_
  obtain⟨g',h1,h2,h3,h4⟩:=Ws hG g i k' hg.f (by rw[hg.n];exact hi) (by rw[hg.n];exact wq)
  refine aa (a:=((),(fI g',()))) (by
   have:(ia b7 (ar z) (gi d.1 0)).getD (0:Int)=(k':Int):=by rw[l9];rfl
   rw[←this]at h4
   exact h4) ?_
  have aaA:Hf d (cp d i) (cp d k'):=⟨z,hz,haz,hak⟩
  have cij:cH d (cp d (root g i)) (cp d (root g k')):=((hg.c i hi).symm h).trans (aaA.conn.trans (hg.c k' wq))
  refine ih (rem.eraseIdx j) g' _ (by rw[List.length_eraseIdx,if_pos hj'];omega) (fun e he=>hr e (List.mem_of_mem_eraseIdx he)) ⟨h1,h2.trans hg.n,fun q hq=>?_,fun y p q hp hq hy=>?_⟩
  ·rw[h3 q]
   unfold zQ
   split
   ·rename_i e
    refine(hg.c q hq).trans ?_
    rw[e]
    rcases Nat.le_total (root g i) (root g k') with hle|hle
    ·rw[Nat.max_eq_right hle,Nat.min_eq_left hle];exact cij.symm h
    ·rw[Nat.max_eq_left hle,Nat.min_eq_right hle];exact cij
   ·exact hg.c q hq
  ·rw[h3 p,h3 q]
   by_cases ln:(y,(p:Int))∈rem
   ·
    have e:(y,(p:Int))=(z,(i:Int)):=by
     apply Classical.byContradiction
     intro ne
     apply hy
     rw[List.mem_eraseIdx_iff_getElem]
     obtain⟨t,ht,hte⟩:=List.getElem_of_mem ln
     refine⟨t,ht,fun k=>?_,hte⟩
     subst k
     exact ne (hte.symm.trans he)
    have e1:y=z:=congrArg Prod.fst e
    have e2:p=i:=by have:=congrArg Prod.snd e;simp at this;omega
    subst e1;subst e2
    have h5:=IP h hq
    rw[l9]at h5
    have e3:q=k':=by have:=Option.some.inj h5;omega
    subst e3
    rw[(zR _ _).1,(zR _ _).2]
   ·rw[hg.p y p q hp hq ln]
theorem Hv(n:Nat):∀i,root (List.range n) i=i:=fun i=>by
 cases h:(List.range n)[i]? with
 |none=>exact kq h
 |some x =>
  have:x=i:=by rw[List.getElem?_range (by have:=(List.getElem?_eq_some_iff.1 h).1;simpa using this)]at h;exact(Option.some.inj h).symm
  subst this
  exact kr h
theorem Wu(hG:HG G)(d:ak)(h:Wf d):FX G 256 gh ((d,()),())=some ((labels d,()),()):=by
 refine aJ (fn:=Tryz.f256) (hG _ _ rfl) (by kernel_rfl) (by kernel_rfl) ((U9 _ _ _).trans ?_)
 refine PJ (G:=G) h ?_ d.1.length 0 (by omega)
 refine PM hG h _ (gi d.1 0) (List.range d.1.length) none rfl (fun _ k=>k) ⟨fun i x hx=>?_,by simp,fun i hi=>?_,fun z i k h1 h2 h3=>absurd h1 h3⟩
 ·have:=(List.getElem?_eq_some_iff.1 hx).1
  rw[List.getElem?_range (by simpa using this)]at hx
  have:=Option.some.inj hx;omega
 ·rw[Hv];exact .refl _
end Go.Vs
namespace Go.Vs
open Go.Proofs
variable {G:(f:FuncId)→(g:aL)→Option (g.A→Option g.B)}
structure PG(G:(f:FuncId)→(g:aL)→Option (g.A→Option g.B)):Prop where
 h:HG G
 f:∀d,Wf d→FX G 240 vU ((d,()),())=some ((dM d,()),())
 c:∀d,Wf d→FX G 241 vV ((d,()),())=some ((jh d,()),())
theorem Wv(hp:PG G)(d:ak)(h:Wf d):FX G 226 Ei ((d,()),())=some ((((d.1.length:Nat):Int),(((d.2.length:Nat):Int),(((ft d:Nat):Int),(jh d,())))),()):=by
 have hn:=h.nv
 have hf:=tV h
 have ha:al d.1≤d.1.length:=List.countP_le_length
 refine aJ (fn:=Tryz.f226) (hp.h _ _ rfl) (by kernel_rfl) (by kernel_rfl) ((UZ _ _ _).trans ?_)
 refine aa (Ns hp.h d.1 (by omega)) ?_
 refine aa (hp.f d h) (aa (hp.c d h) ?_)
 have e:IntKind.wrap .i64 ((((dM d).length:Nat):Int)+((al d.1:Nat):Int))=((ft d:Nat):Int):=by
  rw[wrap_small (by omega) (by omega)];rfl
 exact congrArg (fun n:Int=>some ((((d.1.length:Nat):Int),(((d.2.length:Nat):Int),(n,(jh d,())))),())) e
theorem Ww(hp:PG G)(d:ak)(h:Wf d):FX G 204 Ee ((d,()),())=some ((nX d,()),()):=by
 have hn:=h.nv;have aV:=h.ne
 have hf:=tV h
 have ha:al d.1≤d.1.length:=List.countP_le_length
 refine aJ (fn:=Tryz.f204) (hp.h _ _ rfl) (by kernel_rfl) (by kernel_rfl) ((UN _ _ _).trans ?_)
 refine aa (Wv hp d h) (af rfl ?_)
 have hr:=v7 h (gL h)
 obtain⟨k,e1,e2⟩:=No h hr
 have ec:=vg h
 have LZ:(j4 d (labels d)).length≤d.1.length:=by
  unfold j4
  rw[List.length_map]
  refine Nat.le_trans (List.length_filter_le _ _) ?_
  simp
 have Uh:ft d≤80+d.1.length:=by unfold ft;omega
 refine congrArg (fun n:Int=>some ((n,()),())) ?_
 show IntKind.wrap .i64 (jh d-IntKind.wrap .i64 (Int.tdiv (IntKind.wrap .i64 ((IntKind.wrap .i64 (((d.1.length:Nat):Int)-((d.2.length:Nat):Int)))+((ft d:Nat):Int))) 2))=nX d
 rw[e1,ec]
 have hk:(k:Int)≤1000:=by omega
 rw[wrap_small (n:=((d.1.length:Nat):Int)-((d.2.length:Nat):Int)) (by omega) (by omega)]
 rw[wrap_small (n:=((d.1.length:Nat):Int)-((d.2.length:Nat):Int)+((ft d:Nat):Int)) (by omega) (by omega)]
 have e3:((d.1.length:Nat):Int)-((d.2.length:Nat):Int)+((ft d:Nat):Int)=2*((((j4 d (labels d)).length:Nat):Int)-(k:Int)):=by omega
 rw[e3,Int.mul_tdiv_cancel_left _ (by decide)]
 rw[wrap_small (n:=(((j4 d (labels d)).length:Nat):Int)-(k:Int)) (by omega) (by omega)]
 rw[wrap_small (by omega) (by omega)]
 omega
theorem PN(hp:PG G):Ho G:=fun d h=>by
 refine aJ (fn:=Tryz.f172) (hp.h _ _ rfl) (by kernel_rfl) (by kernel_rfl) ((Uw _ _ _).trans ?_)
 refine aa (Ww hp d h) ?_
 refine congrArg (fun b:Bool=>some ((b,()),())) ?_
 show(nX d==0)=decide (nX d=0)
 rw[Bool.eq_iff_iff];simp
end Go.Vs
