/- What the program computes of faces, parts and whether a diagram lies in the plane. -/
import Derived.Test.YtpkfpbpbkabkdaaGreatSplits
import Derived.Test.YtpkfpbpbkabkdaaGreatEuler
set_option linter.unusedVariables false
set_option linter.unusedSimpArgs false
namespace Go.Vs
open Go.Proofs
variable {G:(f:FuncId)→(g:aK)→Option (g.A→Option g.B)}
theorem Hw(w:ah)(r:List ah)(x:ID):aM (w::r) x=if w.1=x then some w else aM r x:=by
 unfold aM;rw[List.find?_cons];by_cases h:w.1=x<;>simp[h]
theorem Nr(hG:HG G)(l:List ah)(x:ID)(hl:l.length≤1073741824):FX G 110108 jJ ((l,x,()),())=some (Pw zV (aM l x),()):=by
 refine aI (fn:=Tryz.f108) (hG _ _ rfl) (by kernel_rfl) (by kernel_rfl) ((Mo _ _ _).trans ?_)
 have loop:∀(n i:Nat),i+n=l.length→LX G 110108 jJ Tryz.f108 kY (bY Tryz.prog 108 0) ((l,(((l.length:Nat):Int),((i:Int),()))),(((x,()),(((0:Int),((0:Int),(([]:List ab),(e0,((0:Int),()))))),())),()))=some (Pw zV (aM (l.drop i) x),()):=by
  intro n
  induction n with
  |zero =>
   intro i hi
   refine aQ (j:=0) (by kernel_rfl) ((yT _ _ _).trans ?_)
   refine af (decide_eq_false (show ¬((i:Int)<((l.length:Nat):Int)) by omega)) ?_
   rw[List.drop_eq_nil_of_le (by omega)];rfl
  |succ n ih =>
   intro i hi
   have aG:i<l.length:=by omega
   have aaC:FX G 109 Eo ((l[i],()),())=some ((l[i].1,()),()):=aI (fn:=Tryz.f109) (hG _ _ rfl) (by kernel_rfl) (by kernel_rfl) (Vd _ _ _)
   refine aQ (j:=0) (by kernel_rfl) ((yT _ _ _).trans ?_)
   refine ae (cg aG) (aa (bZ (List.getElem?_eq_getElem aG)) ?_)
   refine aa aaC ?_
   rw[List.drop_eq_getElem_cons aG,Hw]
   by_cases he:l[i].1=x
   ·rw[if_pos he]
    exact ae ((ER l[i].1 x).trans (decide_eq_true he)) rfl
   ·rw[if_neg he]
    refine af ((ER l[i].1 x).trans (decide_eq_false he)) ?_
    have:=ih (i+1) (by omega)
    rw[←bz aG hl]at this
    exact this
 have:=loop l.length 0 (by omega)
 rw[List.drop_zero]at this
 exact this
theorem Wv(hG:HG G)(d:ak)(x:ID)(hs:Sm d):FX G 74 El ((d,x,()),())=some (Pw zV (cp d x),()):=by
 have hv:=hs.v
 refine aI (fn:=Tryz.f74) (hG _ _ rfl) (by kernel_rfl) (by kernel_rfl) ((UX _ _ _).trans ?_)
 refine aa (Nr hG d.1 x (by omega)) ?_
 unfold cp
 cases hf:aM d.1 x with
 |none=>exact aa (Sk (hG _ _ rfl) [] (by simp)) rfl
 |some v=>exact aa (Sk (hG _ _ rfl) v.2.1 (hs.r v (fM hf))) rfl
theorem Ns(w:ah)(r:List ah)(x:ab):F2 (w::r) x=if x∈w.2.1 then some w.1 else F2 r x:=by
 unfold F2;rw[List.find?_cons];by_cases h:x∈w.2.1<;>simp[h]
theorem Q8(hG:HG G)(d:ak)(x:ab)(hs:Sm d):FX G 139 tu ((d,x,()),())=some (Pw zI (fa d x),()):=by
 have hv:=hs.v
 refine aI (fn:=Tryz.f139) (hG _ _ rfl) (by kernel_rfl) (by kernel_rfl) ((Ve _ _ _).trans ?_)
 have loop:∀(n i:Nat),i+n=d.1.length→LX G 139 tu Tryz.f139 tE (bY Tryz.prog 139 0) ((d.1,(((d.1.length:Nat):Int),((i:Int),()))),(((x,()),((zI,()),())),()))=some (Pw zI (F2 (d.1.drop i) x),()):=by
  intro n
  induction n with
  |zero =>
   intro i hi
   refine aQ (j:=0) (by kernel_rfl) ((Il _ _ _).trans ?_)
   refine af (decide_eq_false (show ¬((i:Int)<((d.1.length:Nat):Int)) by omega)) ?_
   rw[List.drop_eq_nil_of_le (by omega)];rfl
  |succ n ih =>
   intro i hi
   have aG:i<d.1.length:=by omega
   refine aQ (j:=0) (by kernel_rfl) ((Il _ _ _).trans ?_)
   refine ae (cg aG) (aa (bZ (List.getElem?_eq_getElem aG)) ?_)
   refine aa (BD hG d.1[i].2.1 x (by have:=hs.r _ (List.getElem_mem aG);omega)) ?_
   rw[List.drop_eq_getElem_cons aG,Ns]
   by_cases he:x∈d.1[i].2.1
   ·rw[if_pos he]
    exact ae (decide_eq_true he) rfl
   ·rw[if_neg he]
    refine af (decide_eq_false he) ?_
    have:=ih (i+1) (by omega)
    rw[←bz aG (by omega)]at this
    exact this
 have:=loop d.1.length 0 (by omega)
 rw[List.drop_zero]at this
 exact this
def Hy(x:ab):List aF→Int→Int
 |[],_ => -1
 |g::r,i=>if g.1=x then i else Hy x r (i+1)
theorem Fs(x:ab):∀(l:List aF) (i:Nat),(Hy x l i = -1∧lg l x=none)∨∃k g,Hy x l (i:Int)=((i+k:Nat):Int)∧l[k]? = some g∧lg l x=some g.2
 |[],i=>.inl ⟨rfl,rfl⟩
 |g::r,i=>by
  rw[Hy,oc]
  by_cases h:g.1=x
  ·rw[if_pos h,if_pos h]
   exact .inr ⟨0,g,by simp,by simp,rfl⟩
  ·rw[if_neg h,if_neg h]
   have e:(i:Int)+1=((i+1:Nat):Int):=by omega
   rw[e]
   rcases Fs x r (i+1) with⟨h1,h2⟩|⟨k,q,h1,h2,h3⟩
   ·exact .inl ⟨h1,h2⟩
   ·exact .inr ⟨k+1,q,by rw[h1];congr 1;omega,by simpa using h2,h3⟩
theorem Nt(hG:HG G)(l:List aF)(x:ab)(hl:l.length≤1073741824):FX G 246244 iB ((l,()),((x,()),()))=some ((Hy x l 0,()),((x,()),())):=by
 refine aI (fn:=Tryz.f244) (hG _ _ rfl) (by kernel_rfl) (by kernel_rfl) ((Mq _ _ _).trans ?_)
 have loop:∀(n i:Nat),i+n=l.length→LX G 246244 iB Tryz.f244 jg (bY Tryz.prog 244 0) ((l,(((l.length:Nat):Int),((i:Int),()))),(((x,()),()),()))=some ((Hy x (l.drop i) i,()),((x,()),())):=by
  intro n
  induction n with
  |zero =>
   intro i hi
   refine aQ (j:=0) (by kernel_rfl) ((yV _ _ _).trans ?_)
   refine af (decide_eq_false (show ¬((i:Int)<((l.length:Nat):Int)) by omega)) ?_
   rw[List.drop_eq_nil_of_le (by omega)];rfl
  |succ n ih =>
   intro i hi
   have aG:i<l.length:=by omega
   have aaD:FX G 245 Es ((l[i],()),((x.1.1,(x.1.2,(x.2,()))),()))=some (((((l[i].1.1.1==x.1.1)&&(l[i].1.1.2==x.1.2))&&(l[i].1.2==x.2)),()),((x.1.1,(x.1.2,(x.2,()))),())) :=
    aI (fn:=Tryz.f245) (hG _ _ rfl) (by kernel_rfl) (by kernel_rfl) (Vj _ _ _)
   refine aQ (j:=0) (by kernel_rfl) ((yV _ _ _).trans ?_)
   refine ae (cg aG) (aa (bZ (List.getElem?_eq_getElem aG)) ?_)
   refine aa aaD ?_
   rw[List.drop_eq_getElem_cons aG,Hy]
   by_cases he:l[i].1=x
   ·rw[if_pos he]
    exact ae ((ES l[i].1 x).trans (decide_eq_true he)) rfl
   ·rw[if_neg he]
    refine af ((ES l[i].1 x).trans (decide_eq_false he)) ?_
    have:=ih (i+1) (by omega)
    have e:=bz aG hl
    show LX G 246244 iB Tryz.f244 jg (bY Tryz.prog 244 0) ((l,(((l.length:Nat):Int),(IntKind.wrap .i64 ((i:Int)+1),()))),(((x,()),()),()))=some ((Hy x (l.drop (i+1)) ((i+1:Nat):Int),()),((x,()),()))
    rw[e]
    exact this
 have:=loop l.length 0 (by omega)
 rw[List.drop_zero]at this
 exact this
theorem Ww(hG:HG G)(l:List aF)(x:ab)(hl:l.length≤1073741824):FX G 230 Ep ((l,x,()),())=some (Pw zD (lg l x),()):=by
 refine aI (fn:=Tryz.f230) (hG _ _ rfl) (by kernel_rfl) (by kernel_rfl) ((Vf _ _ _).trans ?_)
 refine aa (Nt hG l x hl) ?_
 rcases Fs x l 0 with⟨h1,h2⟩|⟨k,g,h1,h2,h3⟩
 ·have h1:Hy x l 0 = -1:=h1
  rw[h2]
  exact ae (decide_eq_true (show Hy x l 0<0 by omega)) rfl
 ·have h1:Hy x l 0=(k:Int):=by
   have:Hy x l ((0:Nat):Int)=Hy x l 0:=rfl
   rw[←this,h1];congr 1;omega
  rw[h3]
  refine af (decide_eq_false (show ¬Hy x l 0<0 by omega)) ?_
  refine aa (show dw l (Hy x l 0)=some g by rw[h1];exact bZ h2) ?_
  rfl
theorem Wx(hG:HG G)(s:StateT)(x:ab)(hs:Sm s.1)(hg:s.2.length≤50000000):FX G 212 vY ((s,x,()),())=some ((resolve s x,()),()):=by
 refine aI (fn:=Tryz.f212) (hG _ _ rfl) (by kernel_rfl) (by kernel_rfl) ((UY _ _ _).trans ?_)
 have hw:IntKind.wrap .i64 (((s.2.length:Nat):Int)+1)=((s.2.length+1:Nat):Int):=by rw[wrap_small (by omega) (by omega)];rfl
 have loop:∀(n i:Nat) (y:ab),i+n=s.2.length+1→LX G 212 vY Tryz.f212 tz (bY Tryz.prog 212 0) (((IntKind.wrap .i64 (((s.2.length:Nat):Int)+1)),((i:Int),())),(((s,()),((y,()),((zD,()),()))),()))=some ((res s.1 s.2 n y,()),()):=by
  intro n
  induction n with
  |zero =>
   intro i y hi
   refine aQ (j:=0) (by kernel_rfl) ((Ih _ _ _).trans ?_)
   exact af (decide_eq_false (show ¬((i:Int)<IntKind.wrap .i64 (((s.2.length:Nat):Int)+1)) by rw[hw];omega)) rfl
  |succ n ih =>
   intro i y hi
   refine aQ (j:=0) (by kernel_rfl) ((Ih _ _ _).trans ?_)
   refine ae (decide_eq_true (show((i:Int)<IntKind.wrap .i64 (((s.2.length:Nat):Int)+1)) by rw[hw];omega)) ?_
   refine aa (Q8 hG s.1 y hs) ?_
   rw[res]
   have h1:(Pw zI (fa s.1 y)).2.1=(fa s.1 y).isSome:=IE _ _
   cases ha:(fa s.1 y).isSome
   ·rw[if_neg (by simp)]
    refine af (h1.trans ha) ?_
    refine aa (Ww hG s.2 y (by omega)) ?_
    cases hf:lg s.2 y with
    |none=>exact ae rfl rfl
    |some z =>
     refine af rfl ?_
     have:=ih (i+1) z (by omega)
     have e:IntKind.wrap .i64 ((i:Int)+1)=((i+1:Nat):Int):=by rw[wrap_small (by omega) (by omega)];rfl
     rw[←e]at this
     exact this
   ·rw[if_pos rfl]
    exact ae (h1.trans ha) rfl
 exact loop (s.2.length+1) 0 x (by omega)
theorem Wy(hG:HG G)(s:StateT)(c:tn)(hs:Sm s.1)(hg:s.2.length≤50000000):FX G 180 Ei ((s,c,()),())=some (bL s c,()):=by
 refine aI (fn:=Tryz.f180) (hG _ _ rfl) (by kernel_rfl) (by kernel_rfl) ((UI _ _ _).trans ?_)
 refine aa (Wv hG s.1 c.1 hs) ?_
 unfold bL
 cases hf:cp s.1 c.1 with
 |none=>exact ae rfl rfl
 |some v =>
  refine af rfl ?_
  refine aa (Wx hG s c.2 hs hg) ?_
  refine aa (BD hG v.2.1 (resolve s c.2) (by have:=hs.r v (fM hf);omega)) ?_
  show _=some (((c.1,CU s c v),((0:Int),())),())
  unfold CU
  by_cases hm:resolve s c.2∈v.2.1
  ·rw[if_pos hm]
   exact aT (decide_eq_true hm) rfl
  ·rw[if_neg hm]
   exact aT (decide_eq_false hm) rfl
def Hz(G:(f:FuncId)→(g:aK)→Option (g.A→Option g.B)):Prop:=∀d,Wf d→FX G 172 yG ((d,()),())=some ((decide (nV d=0),()),())
theorem IS{l:List ah}{e:List aq}{c:tn}{v:ah}(hs:bM l)(hf:aM l c.1=some v)(x:ab):l.set (bj l c.1) (v.1,(oI v.2.1 c.2 x,v.2.2))=(b7 (l,e) c x).1:=by
 rw[Hi hs (cO hs hf)]
 have hi:=jR hf
 have hm:=fM hf
 unfold b7 Vs.bV
 rw[←hi,jn (d:=(l,e)) hs hm]
theorem zQ{d:ak}(h:Wf d):nO d.1 d.2=true:=by
 unfold nO
 have h1:=h.nv;have h2:=h.ne
 simp only[Bool.and_eq_true,decide_eq_true_eq,List.all_eq_true]
 exact⟨by omega,by omega,fun v hv=>by have:=h.vh v hv;omega⟩
theorem PN(hG:HG G)(hp:Hz G)(o:bh):iI G o:=by
 intro s h hm KX
 have OD:=h.d.nv;have aU:=h.d.ne;have hn:=h.n
 have PJ:=h.d.small
 have bw:=M0 hm
 have start:∀(e:Int) (w:aB),dt 154 nP Tryz.f154 (FX G) (LX G 154 nP Tryz.f154) ((o,()),(aD s,()))=some ((e,()),(w,()))→FX G 154 nP ((o,()),(aD s,()))=some ((e,()),(w,())):=fun e w a =>
  aI (fn:=Tryz.f154) (hG _ _ rfl) (by kernel_rfl) (by kernel_rfl) a
 have f110:=QZ hG (aD s) (bc o) h.d.se (by show s.1.2.length≤_;omega)
 unfold rB
 cases hf:(aO s.1.2 (bc o)).isSome with
 |true =>
  have e1:rD (aD s) (bc o)=(12,aD s):=if_pos hf
  rw[e1]at f110
  refine⟨12,aD s,start _ _ ((RZ _ _ _).trans (ae (zQ h.d) (aa f110 (ae rfl rfl)))),?_⟩
  rw[if_pos (show(mO s.1 (bc o)).isSome=true from hf)];rfl
 |false =>
 rw[if_neg (show ¬(mO s.1 (bc o)).isSome=true by show ¬(aO s.1.2 (bc o)).isSome=true;rw[hf];simp)]
 by_cases Wz:40≤s.1.2.length
 ·have e1:rD (aD s) (bc o)=(3,aD s):=(if_neg (show ¬(aO s.1.2 (bc o)).isSome=true by rw[hf];simp)).trans (if_pos Wz)
  rw[e1]at f110
  refine⟨3,aD s,start _ _ ((RZ _ _ _).trans (ae (zQ h.d) (aa f110 (ae rfl rfl)))),?_⟩
  rw[if_pos Wz];rfl
 rw[if_neg Wz]
 obtain⟨E,hE⟩:∃E,E=eU (bc o,(e0,0)) s.1.2:=⟨_,rfl⟩
 have e1:rD (aD s) (bc o)=(0,(s.1.1,(E,(s.2,())))):=by rw[hE];exact(if_neg (show ¬(aO s.1.2 (bc o)).isSome=true by rw[hf];simp)).trans (if_neg Wz)
 rw[e1]at f110
 obtain⟨x,hx⟩:∃x:ab,x=(bc o,0):=⟨_,rfl⟩
 obtain⟨y,hy⟩:∃y:ab,y=(bc o,1):=⟨_,rfl⟩
 have f111:FX G 179 yE ((bc o,()),())=some ((x,y,()),()):=by
  rw[hx,hy];exact aI (fn:=Tryz.f179) (hG _ _ rfl) (by kernel_rfl) (by kernel_rfl) (QM _ _ _)
 have f112:=fun c:tn=>Wy hG s c h.d.sm (by omega)
 have go:∀(e:Int) (w:aB),LX G 154 nP Tryz.f154 kX (bY Tryz.prog 154 0) (((2:Int),((0:Int),())),(((s.1.1,(E,(s.2,()))),((s,()),((x,()),()))),([x,y],([oA o,oB o],()))))=some ((e,()),(w,()))→FX G 154 nP ((o,()),(aD s,()))=some ((e,()),(w,())):=fun e w a =>
  start _ _ ((RZ _ _ _).trans (ae (zQ h.d) (aa f110 (af rfl (aa f111 a)))))
 by_cases hA:(bL s (oA o)).2.1=0
 case neg =>
  rw[if_pos hA]
  have aaE:bL s (oA o)=(zC,(13,())):=by
   unfold bL at hA ⊢
   cases hv:cp s.1 (oA o).1 with
   |none=>rfl
   |some v=>rw[hv]at hA;exact absurd rfl hA
  refine⟨13,(s.1.1,(E,(s.2,()))),go _ _ ?_,rfl⟩
  refine aQ (j:=0) (by kernel_rfl) ((uS _ _ _).trans ?_)
  refine ae rfl (ae rfl (aa (a:=oA o) rfl (aa (f112 (oA o)) ?_)))
  rw[aaE]
  exact ae rfl rfl
 rw[if_neg (fun k=>k hA)]
 obtain⟨va,ca⟩:=od hA
 obtain⟨cA,hcA⟩:∃c:tn,c=(bL s (oA o)).1:=⟨_,rfl⟩
 have eA:bL s (oA o)=(cA,(0,())):=by
  rw[hcA]
  have:(bL s (oA o)).2=(0,()):=by
   have h1:(bL s (oA o)).2=((bL s (oA o)).2.1,()):=rfl
   rw[h1,hA]
  rw[←this]
 have cAv:(aM s.1.1 cA.1).isSome=true:=by rw[hcA,ca];exact va
 obtain⟨v1,sY⟩:=Option.isSome_iff_exists.1 cAv
 have SC:=fM sY
 obtain⟨d1,Kp⟩:∃d1:ak,d1=b7 (s.1.1,E) cA x:=⟨_,rfl⟩
 have aaG:s.1.1.set (bj s.1.1 cA.1) (v1.1,(oI v1.2.1 cA.2 x,v1.2.2))=d1.1:=by rw[Kp];exact IS h.d.sv sY x
 have Q9:bM d1.1:=by rw[Kp];exact h.d.sv.re _ _
 have XG:=(List.getElem?_eq_some_iff.1 (cO h.d.sv sY)).1
 have Ra:∀v∈d1.1,v.2.1.length≤50000000:=fun v hv=>by
  rw[Kp]at hv
  obtain⟨w,hw,rfl⟩:=List.mem_map.1 (show v∈s.1.1.map (uX cA.1 (oI (cZ (s.1.1,E) cA.1) cA.2 x)) from hv)
  have h1:=h.d.vh w hw
  unfold uX
  split
  ·have h2:=wb (cZ (s.1.1,E) cA.1) cA.2 x
   have h3:(cZ (s.1.1,E) cA.1).length≤80:=by
    rw[←jR sY,jn (d:=(s.1.1,E)) h.d.sv SC]
    exact h.d.vh v1 SC
   show(oI (cZ (s.1.1,E) cA.1) cA.2 x).length≤50000000
   omega
  ·omega
 have d1l:d1.1.length=s.1.1.length:=by rw[Kp];exact eg _ _ _
 have Rb:∀(e:Int) (w:aB),LX G 154 nP Tryz.f154 kX (bY Tryz.prog 154 0) (((2:Int),((1:Int),())),(((d1.1,(E,(s.2,()))),((s,()),((x,()),()))),([x,y],([oA o,oB o],()))))=some ((e,()),(w,()))→FX G 154 nP ((o,()),(aD s,()))=some ((e,()),(w,())):=fun e w a=>by
  refine go _ _ ?_
  refine aQ (j:=0) (by kernel_rfl) ((uS _ _ _).trans ?_)
  refine ae rfl (ae rfl (aa (a:=oA o) rfl (aa (f112 (oA o)) ?_)))
  rw[eA]
  refine af rfl (af rfl ?_)
  refine aa (oC hG (s.1.1,(E,(s.2,()))) cA.1 h.d.sv PJ.n) ?_
  refine ae (eV (jN _) (cg XG)) (aa (cO h.d.sv sY) ?_)
  refine ae rfl (aa (a:=x) rfl ?_)
  refine aa (MY hG v1.2.1 cA.2 x (PJ.r v1 SC)) ?_
  refine aa (cO h.d.sv sY) ?_
  have key:∀a1:List ah,a1=d1.1→LX G 154 nP Tryz.f154 kX (bY Tryz.prog 154 0) (((2:Int),((1:Int),())),(((a1,(E,(s.2,()))),((s,()),((x,()),()))),([x,y],([oA o,oB o],()))))=some ((e,()),(w,())):=fun a1 BX=>by subst BX;exact a
  exact key _ aaG
 by_cases hB:(bL s (oB o)).2.1=0
 case neg =>
  rw[if_pos hB]
  have aaH:bL s (oB o)=(zC,(13,())):=by
   unfold bL at hB ⊢
   cases hv:cp s.1 (oB o).1 with
   |none=>rfl
   |some v=>rw[hv]at hB;exact absurd rfl hB
  refine⟨13,(d1.1,(E,(s.2,()))),Rb _ _ ?_,rfl⟩
  refine aQ (j:=0) (by kernel_rfl) ((uS _ _ _).trans ?_)
  refine ae rfl (ae rfl (aa (a:=oB o) rfl (aa (f112 (oB o)) ?_)))
  rw[aaH]
  exact ae rfl rfl
 rw[if_neg (fun k=>k hB)]
 obtain⟨vb,cb⟩:=od hB
 obtain⟨cB,WA⟩:∃c:tn,c=if(cp s.1 (oB o).1).isSome=true∧(oB o).2=(bc o,0) then oB o else(bL s (oB o)).1:=⟨_,rfl⟩
 have eB:bL s (oB o)=((bL s (oB o)).1,(0,())):=by
  have:(bL s (oB o)).2=(0,()):=by
   have h1:(bL s (oB o)).2=((bL s (oB o)).2.1,()):=rfl
   rw[h1,hB]
  rw[←this]
 have cB1:cB.1=(oB o).1:=by rw[WA];split;rfl;exact cb
 have cBv:(aM d1.1 cB.1).isSome=true:=by
  rw[Kp]
  exact tS _ (by rw[cB1];exact vb)
 obtain⟨v2,vC⟩:=Option.isSome_iff_exists.1 cBv
 have WB:=fM vC
 have wH:=(List.getElem?_eq_some_iff.1 (cO Q9 vC)).1
 obtain⟨d2,OS⟩:∃d2:ak,d2=b7 d1 cB y:=⟨_,rfl⟩
 have PO:d1.1.set (bj d1.1 cB.1) (v2.1,(oI v2.2.1 cB.2 y,v2.2.2))=d2.1:=by rw[OS];exact IS (e:=d1.2) Q9 vC y
 have Rc:mQ s o=d2:=by
  rw[OS,Kp,hcA,WA,hx,hy,hE];rfl
 have hE2:d2.2=E:=by rw[OS,Kp];rfl
 have Ya:Wf d2:=by
  rw[←Rc]
  unfold mQ
  have ZD:aO s.1.2 (bc o)=none:=by simpa using hf
  refine h.d.link bw ZD Wz (by rw[ca];exact va) ?_
  rw[←WA,cB1];exact vb
 have last:∀(e:Int) (w:aB),LX G 154 nP Tryz.f154 kX (bY Tryz.prog 154 0) (((2:Int),((2:Int),())),(((d2.1,(E,(s.2,()))),((s,()),((x,()),()))),([x,y],([oA o,oB o],()))))=some ((e,()),(w,()))→FX G 154 nP ((o,()),(aD s,()))=some ((e,()),(w,())):=fun e w a=>by
  refine Rb _ _ ?_
  refine aQ (j:=0) (by kernel_rfl) ((uS _ _ _).trans ?_)
  refine ae rfl (ae rfl (aa (a:=oB o) rfl (aa (f112 (oB o)) ?_)))
  rw[eB]
  have key:∀a2:List ah,a2=d2.1→LX G 154 nP Tryz.f154 kX (bY Tryz.prog 154 0) (((2:Int),((2:Int),())),(((a2,(E,(s.2,()))),((s,()),((x,()),()))),([x,y],([oA o,oB o],()))))=some ((e,()),(w,())):=fun a2 AL=>by subst AL;exact a
  refine af rfl (ae rfl ?_)
  have oE:=ES (oB o).2 x
  by_cases Tz:(oB o).2=x
  ·have ecB:cB=oB o:=by rw[WA];exact if_pos ⟨vb,Tz.trans hx⟩
   refine ae (oE.trans (decide_eq_true Tz)) ?_
   rw[ecB]at vC wH PO
   refine aa (oC hG (d1.1,(E,(s.2,()))) (oB o).1 Q9 (by show d1.1.length≤_;omega)) ?_
   refine ae (eV (jN _) (cg wH)) (aa (cO Q9 vC) ?_)
   refine ae rfl (aa (a:=y) rfl ?_)
   refine aa (MY hG v2.2.1 (oB o).2 y (Ra v2 WB)) ?_
   refine aa (cO Q9 vC) ?_
   exact key _ PO
  ·have ecB:cB=(bL s (oB o)).1:=by rw[WA];exact if_neg (fun k=>Tz (k.2.trans hx.symm))
   refine af (oE.trans (decide_eq_false Tz)) ?_
   rw[ecB]at vC wH PO
   refine aa (oC hG (d1.1,(E,(s.2,()))) (bL s (oB o)).1.1 Q9 (by show d1.1.length≤_;omega)) ?_
   refine ae (eV (jN _) (cg wH)) (aa (cO Q9 vC) ?_)
   refine ae rfl (aa (a:=y) rfl ?_)
   refine aa (MY hG v2.2.1 (bL s (oB o)).1.2 y (Ra v2 WB)) ?_
   refine aa (cO Q9 vC) ?_
   exact key _ PO
 have f114:=hp d2 Ya
 rw[Rc]
 have e2:(d2.1,E)=d2:=by rw[←hE2]
 by_cases hg:nV d2=0
 ·rw[if_neg (fun k=>k hg)]
  refine⟨0,(d2.1,(E,(s.2,()))),last _ _ ?_,?_⟩
  ·refine aQ (j:=0) (by kernel_rfl) ((uS _ _ _).trans ?_)
   refine af rfl ?_
   have key:∀q:ak,q=d2→((FX G 172 yG ((q,()),())).bind fun(EB:((Bool×Unit)×Unit))=>cond (not EB.1.1) (some (((15:Int),()),((d2.1,(E,(s.2,()))),()))) (some (((0:Int),()),((d2.1,(E,(s.2,()))),()))))=some (((0:Int),()),((d2.1,(E,(s.2,()))),())):=fun q hq=>by
    subst hq
    exact aa f114 (aT (decide_eq_true hg) rfl)
   exact key _ e2
  ·show(w7 (d2.1,(E,(s.2,()))),((0:Int),()))=((d2,s.2),(0,()))
   show(((d2.1,E),s.2),((0:Int),()))=((d2,s.2),(0,()))
   rw[e2]
 ·rw[if_pos hg]
  refine⟨15,(d2.1,(E,(s.2,()))),last _ _ ?_,rfl⟩
  refine aQ (j:=0) (by kernel_rfl) ((uS _ _ _).trans ?_)
  refine af rfl ?_
  have key:∀q:ak,q=d2→((FX G 172 yG ((q,()),())).bind fun(EB:((Bool×Unit)×Unit))=>cond (not EB.1.1) (some (((15:Int),()),((d2.1,(E,(s.2,()))),()))) (some (((0:Int),()),((d2.1,(E,(s.2,()))),()))))=some (((15:Int),()),((d2.1,(E,(s.2,()))),())):=fun q hq=>by
   subst hq
   exact aa f114 (aT (decide_eq_false hg) rfl)
  exact key _ e2
end Go.Vs
namespace Go.Vs
open Go.Proofs
variable {G:(f:FuncId)→(g:aK)→Option (g.A→Option g.B)}
theorem WC(hG:HG G)(row:List ab)(d:ab)(hl:row.length≤100000000):FX G 261 Ev ((row,d,()),())=some (Ol (iD row d 1),()):=by
 refine aI (fn:=Tryz.f261) (hG _ _ rfl) (by kernel_rfl) (by kernel_rfl) ((Vr _ _ _).trans ?_)
 have key:FX G 167 yL ((row,(d,((1:Int),()))),())=some (Ol (iD row d 1),()):=by
  refine aI (fn:=Tryz.f167) (hG _ _ rfl) (by kernel_rfl) (by kernel_rfl) ((QN _ _ _).trans ?_)
  refine aa (zn (hG _ _ rfl) row d (by omega)) ?_
  unfold iD
  by_cases hd:d∈row
  ·rw[if_pos hd]
   obtain⟨k,h1,h2,h3⟩:=k9 hd
   have aG:=(List.getElem?_eq_some_iff.1 h2).1
   refine af (decide_eq_false (show ¬idx d row 0<0 by omega)) ?_
   refine af (MK hd) ?_
   have Pb:IntKind.wrap .i64 (idx d row 0+1)=((k+1:Nat):Int):=by rw[h1,wrap_small (by omega) (by omega)];rfl
   have Sp:(k+1)%row.length<row.length:=Nat.mod_lt _ (by omega)
   have hx:=List.getElem?_eq_getElem Sp
   refine aa (show dw row (Int.tmod (IntKind.wrap .i64 (idx d row 0+1)) ((row.length:Nat):Int))=some row[(k+1)%row.length] by rw[Pb,ET];exact bZ hx) ?_
   rw[h1,Int.toNat_natCast,hx];rfl
  ·rw[if_neg hd]
   exact ae (decide_eq_true (tM.2 hd)) rfl
 refine aa key ?_
 rfl
def Ft(x:ab):List ah→Option ab
 |[]=>none
 |v::r=>if x∈v.2.1 then iD v.2.1 x 1 else Ft x r
theorem IT{l:List ah}(h:Rw l){v:ah}{x:ab}(hv:v∈l)(hx:x∈v.2.1):∀r,(∀u∈r,u∈l)→v∈r→Ft x r=iD v.2.1 x 1
 |[],_,k=>by cases k
 |u::r,hs,k=>by
  rw[Ft]
  by_cases hu:x∈u.2.1
  ·rw[if_pos hu,h.one hv (hs u List.mem_cons_self) hx hu]
  ·rw[if_neg hu]
   rcases List.mem_cons.1 k with e|k
   ·rw[e]at hx;exact absurd hx hu
   ·exact IT h hv hx r (fun w hw=>hs w (List.mem_cons_of_mem _ hw)) k
theorem BY{x:ab}:∀{l:List ah},x∉an l→Ft x l=none
 |[],_=>rfl
 |v::r,h=>by
  rw[jl,List.mem_append]at h
  rw[Ft,if_neg (fun k=>h (.inl k))]
  exact BY fun k=>h (.inr k)
theorem HA{d:ak}(h:Rw d.1)(x:ab):Ft x d.1=pP d x:=by
 by_cases hx:x∈an d.1
 ·obtain⟨v,hv,j0⟩:=aV.1 hx
  rw[zJ h hv j0]
  exact IT h hv j0 d.1 (fun _ k=>k) hv
 ·rw[BY hx]
  unfold pP fa
  rw[E2 hx]
theorem WD(hG:HG G)(d:ak)(x:ab)(hs:Sm d)(h:Rw d.1):FX G 258 v7 ((d,x,()),())=some (Ol (pP d x),()):=by
 have hv:=hs.v
 rw[←HA h x]
 refine aI (fn:=Tryz.f258) (hG _ _ rfl) (by kernel_rfl) (by kernel_rfl) ((Vo _ _ _).trans ?_)
 have loop:∀(n i:Nat),i+n=d.1.length→LX G 258 v7 Tryz.f258 tI (bY Tryz.prog 258 0) ((d.1,(((d.1.length:Nat):Int),((i:Int),()))),(((x,()),((zD,()),())),()))=some (Ol (Ft x (d.1.drop i)),()):=by
  intro n
  induction n with
  |zero =>
   intro i hi
   refine aQ (j:=0) (by kernel_rfl) ((Is _ _ _).trans ?_)
   refine af (decide_eq_false (show ¬((i:Int)<((d.1.length:Nat):Int)) by omega)) ?_
   rw[List.drop_eq_nil_of_le (by omega)];rfl
  |succ n ih =>
   intro i hi
   have aG:i<d.1.length:=by omega
   refine aQ (j:=0) (by kernel_rfl) ((Is _ _ _).trans ?_)
   refine ae (cg aG) (aa (bZ (List.getElem?_eq_getElem aG)) ?_)
   refine aa (WC hG d.1[i].2.1 x (by have:=hs.r _ (List.getElem_mem aG);omega)) ?_
   rw[List.drop_eq_getElem_cons aG,Ft]
   by_cases he:x∈d.1[i].2.1
   ·rw[if_pos he]
    unfold iD
    rw[if_pos he]
    obtain⟨k,h1,h2,h3⟩:=k9 he
    have hl:=(List.getElem?_eq_some_iff.1 h2).1
    have hm:((idx x d.1[i].2.1 0).toNat+1)%d.1[i].2.1.length<d.1[i].2.1.length:=Nat.mod_lt _ (by omega)
    rw[List.getElem?_eq_getElem hm]
    exact ae rfl rfl
   ·rw[if_neg he]
    unfold iD
    rw[if_neg he]
    refine af rfl ?_
    have:=ih (i+1) (by omega)
    rw[←bz aG (by omega)]at this
    exact this
 have:=loop d.1.length 0 (by omega)
 rw[List.drop_zero]at this
 exact this
theorem at_mem{d:ak}{x:ab}(h:(fa d x).isSome=true):x∈an d.1:=by
 apply Classical.byContradiction
 intro k
 unfold fa at h
 rw[E2 k]at h
 cases h
theorem WE(hG:HG G)(d:ak)(x:ab)(h:Wf d):FX G 255 Bu ((d,x,()),())=some (Ol (ML d x),()):=by
 have hs:=h.sm
 refine aI (fn:=Tryz.f255) (hG _ _ rfl) (by kernel_rfl) (by kernel_rfl) ((Vm _ _ _).trans ?_)
 refine aa (Q8 hG d x hs) ?_
 have h1:(Pw zI (fa d x)).2.1=(fa d x).isSome:=IE _ _
 unfold ML
 cases ha:(fa d x).isSome
 ·rw[if_neg (by simp)]
  exact aT (h1.trans ha) rfl
 ·rw[if_pos rfl]
  refine aT (h1.trans ha) ?_
  refine aa (E8 (hG _ _ rfl) x (h.side (at_mem ha))) ?_
  exact aa (WD hG d (ao x) hs h.rw) rfl
theorem WG(hG:HG G)(d:ak)(hs:Sm d):FX G 249 tv ((d,()),())=some ((iE d.2,()),()):=by
 have he:=hs.e
 refine aI (fn:=Tryz.f249) (hG _ _ rfl) (by kernel_rfl) (by kernel_rfl) ((Vl _ _ _).trans ?_)
 have loop:∀(n i:Nat) (out:List ab),i+n=d.2.length→out.length=2*i→LX G 249 tv Tryz.f249 tF (bY Tryz.prog 249 0) ((d.2,(((d.2.length:Nat):Int),((i:Int),()))),((),(out,())))=some ((out++iE (d.2.drop i),()),()):=by
  intro n
  induction n with
  |zero =>
   intro i out hi ho
   refine aQ (j:=0) (by kernel_rfl) ((Im _ _ _).trans ?_)
   refine af (decide_eq_false (show ¬((i:Int)<((d.2.length:Nat):Int)) by omega)) ?_
   rw[List.drop_eq_nil_of_le (by omega)]
   show some ((out,()),())=some ((out++[],()),())
   rw[List.append_nil]
  |succ n ih =>
   intro i out hi ho
   have aG:i<d.2.length:=by omega
   refine aQ (j:=0) (by kernel_rfl) ((Im _ _ _).trans ?_)
   refine ae (cg aG) (aa (bZ (List.getElem?_eq_getElem aG)) ?_)
   refine aa (E8 (hG _ _ rfl) (d.2[i].1,0) (.inl rfl)) ?_
   refine ae (fits (by show out.length+2≤_;omega)) ?_
   have:=ih (i+1) (out++[(d.2[i].1,0),(d.2[i].1,1)]) (by omega) (by simp[ho];omega)
   rw[List.drop_eq_getElem_cons aG]
   rw[←bz aG (by omega),List.append_assoc]at this
   exact this
 exact loop d.2.length 0 [] (by omega) rfl
theorem Nu(hG:HG G)(l:List ah)(hl:l.length≤50000000):FX G 240238 jK ((l,()),())=some ((((al l:Nat):Int),()),()):=by
 refine aI (fn:=Tryz.f238) (hG _ _ rfl) (by kernel_rfl) (by kernel_rfl) ((Mr _ _ _).trans ?_)
 have loop:∀(n i m:Nat),i+n=l.length→m≤i→LX G 240238 jK Tryz.f238 jh (bY Tryz.prog 238 0) (((m:Int),(l,(((l.length:Nat):Int),((i:Int),())))),((),()))=some ((((m+al (l.drop i):Nat):Int),()),()):=by
  intro n
  induction n with
  |zero =>
   intro i m hi hm
   refine aQ (j:=0) (by kernel_rfl) ((yW _ _ _).trans ?_)
   refine af (decide_eq_false (show ¬((i:Int)<((l.length:Nat):Int)) by omega)) ?_
   rw[List.drop_eq_nil_of_le (by omega)];rfl
  |succ n ih =>
   intro i m hi hm
   have aG:i<l.length:=by omega
   have aaJ:FX G 239 Et ((l[i],()),())=some ((l[i].2.1.isEmpty,()),()):=by
    refine aI (fn:=Tryz.f239) (hG _ _ rfl) (by kernel_rfl) (by kernel_rfl) ((Vk _ _ _).trans ?_)
    have:(((l[i].2.1.length:Nat):Int)==0)=l[i].2.1.isEmpty:=by cases l[i].2.1<;>simp;omega
    exact congrArg (fun b:Bool=>some ((b,()),())) this
   refine aQ (j:=0) (by kernel_rfl) ((yW _ _ _).trans ?_)
   refine ae (cg aG) (aa (bZ (List.getElem?_eq_getElem aG)) ?_)
   refine aa aaJ ?_
   rw[List.drop_eq_getElem_cons aG]
   unfold al
   rw[List.countP_cons]
   cases hb:l[i].2.1.isEmpty
   ·refine af rfl ?_
    have:=ih (i+1) m (by omega) (by omega)
    rw[←bz aG (by omega)]at this
    exact this
   ·refine ae rfl ?_
    have:=ih (i+1) (m+1) (by omega) (by omega)
    rw[←bz aG (by omega),←bz (i:=m) (n:=l.length) (by omega) (by omega)]at this
    refine this.trans ?_
    refine congrArg (fun q:Nat=>some ((((q:Nat):Int),()),())) ?_
    unfold al
    simp;omega
 have:=loop l.length 0 0 (by omega) (by omega)
 rw[List.drop_zero,Nat.zero_add]at this
 exact this
end Go.Vs
namespace Go.Vs
open Go.Proofs
variable {G:(f:FuncId)→(g:aK)→Option (g.A→Option g.B)}
def Fo(g:List Nat):Prop:=∀(i x:Nat),g[i]? = some x→x≤i
def root(g:List Nat)(i:Nat):Nat :=
 match g[i]? with
 |some x=>if h:x<i then root g x else i
 |none=>i
termination_by i
theorem de{g:List Nat}{i x:Nat}(h:g[i]? = some x):root g i=if x<i then root g x else i:=by
 rw[root,h];simp
theorem kz{g:List Nat}{i:Nat}(h:g[i]? = none):root g i=i:=by rw[root,h]
theorem IU(g:List Nat):∀i,root g i≤i:=by
 intro i
 induction i using Nat.strongRecOn with
 |_ i ih =>
  cases h:g[i]? with
  |none=>rw[kz h];exact Nat.le_refl _
  |some x =>
   rw[de h]
   split
   ·rename_i hx;have:=ih x hx;omega
   ·exact Nat.le_refl _
theorem Fu{g:List Nat}(hf:Fo g):∀i,i<g.length→g[root g i]? = some (root g i):=by
 intro i
 induction i using Nat.strongRecOn with
 |_ i ih =>
  intro hi
  have h:=List.getElem?_eq_getElem hi
  rw[de h]
  split
  ·rename_i hx;exact ih _ hx (by omega)
  ·have:=hf i _ h
   rw[h];congr 1;omega
theorem kA{g:List Nat}{i:Nat}(h:g[i]? = some i):root g i=i:=by rw[de h,if_neg (by omega)]
theorem Fo.set{g:List Nat}(hf:Fo g){i y:Nat}(h:y≤i):Fo (g.set i y):=fun j x hj=>by
 rw[List.getElem?_set]at hj
 split at hj
 ·rename_i e;subst e
  split at hj
  ·cases hj;exact h
  ·cases hj
 ·exact hf j x hj
theorem HB{g:List Nat}(hf:Fo g){i x y:Nat}(hi:g[i]? = some x)(hx:g[x]? = some y)(aG:x<i):∀j,root (g.set i y) j=root g j:=by
 have hyx:=hf x y hx
 have ng:=(List.getElem?_eq_some_iff.1 hi).1
 intro j
 induction j using Nat.strongRecOn with
 |_ j ih =>
  by_cases e:j=i
  ·subst e
   have h1:(g.set j y)[j]? = some y:=by rw[List.getElem?_set];simp[ng]
   rw[de h1,if_pos (by omega),ih y (by omega),de hi,if_pos aG,de hx]
   split
   ·rfl
   ·have:y=x:=by omega
    subst this;exact kA hx
  ·have h1:(g.set i y)[j]? = g[j]? := by rw[List.getElem?_set,if_neg (fun k=>e k.symm)]
   cases h:g[j]? with
   |none=>rw[kz h,kz (h1.trans h)]
   |some z =>
    rw[de h,de (h1.trans h)]
    split
    ·rename_i hz;exact ih z hz
    ·rfl
theorem KE{g:List Nat}{a b:Nat}(ha:g[a]? = some a)(hb:g[b]? = some b):∀j,root (g.set (max a b) (min a b)) j=if root g j=max a b then min a b else root g j:=by
 have hm:g[max a b]? = some (max a b):=by rcases Nat.le_total a b with h|h<;>simp[Nat.max_eq_right,Nat.max_eq_left,h,ha,hb]
 have hn:g[min a b]? = some (min a b):=by rcases Nat.le_total a b with h|h<;>simp[Nat.min_eq_right,Nat.min_eq_left,h,ha,hb]
 have Zy:=(List.getElem?_eq_some_iff.1 hm).1
 have hle:min a b≤max a b:=by omega
 generalize max a b=M at *
 generalize min a b=m at *
 have aG:∀j,(g.set M m)[j]? = if j=M then some m else g[j]? := fun j=>by
  rw[List.getElem?_set]
  by_cases e:M=j
  ·subst e;simp[Zy]
  ·rw[if_neg e,if_neg (fun k=>e k.symm)]
 intro j
 induction j using Nat.strongRecOn with
 |_ j ih =>
  by_cases ej:j=M
  ·subst ej
   have h1:(g.set j m)[j]? = some m:=by rw[aG,if_pos rfl]
   rw[de h1,kA hm,if_pos rfl]
   by_cases e:m<j
   ·rw[if_pos e,ih m e,kA hn,if_neg (by omega)]
   ·rw[if_neg e];omega
  ·have h1:(g.set M m)[j]? = g[j]? := by rw[aG,if_neg ej]
   cases h:g[j]? with
   |none=>rw[kz h,kz (h1.trans h),if_neg ej]
   |some z =>
    rw[de h,de (h1.trans h)]
    by_cases hz:z<j
    ·rw[if_pos hz,if_pos hz];exact ih z hz
    ·rw[if_neg hz,if_neg hz,if_neg ej]
def fI(g:List Nat):List Int:=g.map fun n=>((n:Nat):Int)
theorem zR(g:List Nat):(fI g).length=g.length:=by simp[fI]
theorem sy{g:List Nat}{i x:Nat}(h:g[i]? = some x):(fI g)[Int.toNat (i:Int)]? = some (x:Int):=by simp[fI,h]
theorem Nv(g:List Nat)(i x:Nat):(fI g).set (Int.toNat (i:Int)) (x:Int)=fI (g.set i x):=by simp[fI,List.map_set]
theorem zT{g:List Nat}{i:Nat}(h:i<g.length):(decide ((0:Int)≤(i:Int))&&decide ((i:Int)<(((fI g).length:Nat):Int)))=true:=by
 rw[zR];exact eV (jN i) (cg h)
structure BZ(g g':List Nat):Prop where
 f:Fo g'
 n:g'.length=g.length
 r:∀j,root g' j=root g j
theorem BZ.trans{a b c:List Nat}(h:BZ a b)(k:BZ b c):BZ a c:=⟨k.f,k.n.trans h.n,fun j=>(k.r j).trans (h.r j)⟩
theorem Nw(hG:HG G)(g:List Nat)(i:Nat)(hf:Fo g)(hi:i<g.length):∃g',BZ g g'∧FX G 260 pK (((i:Int),()),(fI g,()))=some ((((root g i:Nat):Int),()),(fI g',())):=by
 have loop:∀(i:Nat) (g:List Nat),Fo g→i<g.length→∃g',BZ g g'∧LX G 260 pK Tryz.f260 qv (bY Tryz.prog 260 0) (((i:Int),()),((),(fI g,())))=some ((((root g i:Nat):Int),()),(fI g',())):=by
  intro i
  induction i using Nat.strongRecOn with
  |_ i ih =>
   intro g hf hi
   have h:=List.getElem?_eq_getElem hi
   generalize g[i]=x at h
   have hxi:=hf i x h
   by_cases hx:x<i
   ·have h2:=List.getElem?_eq_getElem (show x<g.length by omega)
    generalize g[x]=y at h2
    have hyx:=hf x y h2
    have hs:=HB hf h h2 hx
    have hf2:Fo (g.set i y):=hf.set (by omega)
    obtain⟨g',h3,h4⟩:=ih y (by omega) (g.set i y) hf2 (by rw[List.length_set];omega)
    refine⟨g',⟨h3.f,by rw[h3.n,List.length_set],fun j=>(h3.r j).trans (hs j)⟩,?_⟩
    refine aQ (j:=0) (by kernel_rfl) ((It _ _ _).trans ?_)
    refine ae (zT hi) (aa (sy h) ?_)
    refine ae (show(((x:Nat):Int) != (i:Int))=true by rw[bne_iff_ne];omega) ?_
    refine ae (zT hi) (aa (sy h) ?_)
    refine ae (zT (show x<g.length by omega)) (aa (sy h2) ?_)
    refine ae (zT hi) (aa (sy h) ?_)
    have aaK:=Nv g i y
    have key:∀f:List Int,f=fI (g.set i y)→cond ((decide ((0:Int)≤(i:Int)))&&(decide ((i:Int)<(((List.length f):Nat):Int)))) (((f)[(Int.toNat (i:Int))]?).bind fun(y5:Int)=>LX G 260 pK Tryz.f260 qv (bY Tryz.prog 260 0) ((y5,()),((),(f,())))) none=some ((((root g i:Nat):Int),()),(fI g',())):=fun f hf=>by
     subst hf
     refine ae (zT (by rw[List.length_set];exact hi)) (aa (sy (x:=y) (by rw[List.getElem?_set];simp[hi])) ?_)
     rw[h4,hs y,de h,if_pos hx,de h2]
     by_cases hy:y<x
     ·rw[if_pos hy]
     ·have:y=x:=by omega
      subst this;rw[if_neg (by omega),kA h2]
    exact key _ aaK
   ·have:x=i:=by omega
    subst this
    refine⟨g,⟨hf,rfl,fun _=>rfl⟩,?_⟩
    refine aQ (j:=0) (by kernel_rfl) ((It _ _ _).trans ?_)
    refine ae (zT hi) (aa (sy h) ?_)
    rw[kA h]
    exact af (by simp) rfl
 obtain⟨g',h1,h2⟩:=loop i g hf hi
 exact⟨g',h1,aI (fn:=Tryz.f260) (hG _ _ rfl) (by kernel_rfl) (by kernel_rfl) ((Vq _ _ _).trans h2)⟩
def zU(a b r:Nat):Nat:=if r=max a b then min a b else r
theorem WH(hG:HG G)(g:List Nat)(i k:Nat)(hf:Fo g)(hi:i<g.length)(hk:k<g.length):∃g',Fo g'∧g'.length=g.length∧(∀j,root g' j=zU (root g i) (root g k) (root g j))∧FX G 259 Eu (((i:Int),((k:Int),())),(fI g,()))=some ((),(fI g',())):=by
 obtain⟨g1,h1,e1⟩:=Nw hG g i hf hi
 obtain⟨g2,h2,e2⟩:=Nw hG g1 k h1.f (by rw[h1.n];exact hk)
 rw[h1.r k]at e2
 have hs:=h1.trans h2
 have ra:g2[root g i]? = some (root g i):=by
  have:=Fu hs.f i (by rw[hs.n];exact hi)
  rw[hs.r i]at this;exact this
 have rb:g2[root g k]? = some (root g k):=by
  have:=Fu hs.f k (by rw[hs.n];exact hk)
  rw[hs.r k]at this;exact this
 have hal:=(List.getElem?_eq_some_iff.1 ra).1
 have hbl:=(List.getElem?_eq_some_iff.1 rb).1
 have hm:max (root g i) (root g k)<g2.length:=by omega
 refine⟨g2.set (max (root g i) (root g k)) (min (root g i) (root g k)),hs.f.set (by omega),by rw[List.length_set,hs.n],fun j=>by rw[KE ra rb j,hs.r j];rfl,?_⟩
 refine aI (fn:=Tryz.f259) (hG _ _ rfl) (by kernel_rfl) (by kernel_rfl) ((Vp _ _ _).trans ?_)
 refine aa e1 (aa e2 ?_)
 have em:(max ((root g i:Nat):Int) ((root g k:Nat):Int):Int)=((max (root g i) (root g k):Nat):Int):=by omega
 have en:(min ((root g i:Nat):Int) ((root g k:Nat):Int):Int)=((min (root g i) (root g k):Nat):Int):=by omega
 have key:∀m n:Int,m=((max (root g i) (root g k):Nat):Int)→n=((min (root g i) (root g k):Nat):Int)→cond ((decide ((0:Int)≤m))&&(decide (m<(((List.length (fI g2)):Nat):Int)))) (((fI g2)[(Int.toNat m)]?).bind fun(y3:Int)=>(some ((),((List.set (fI g2) (Int.toNat m) n),())):Option (Unit×((List Int)×Unit)))) none=some ((),(fI (g2.set (max (root g i) (root g k)) (min (root g i) (root g k))),())):=fun m n OP Gd=>by
  subst OP Gd
  refine ae (zT hm) (aa (sy (List.getElem?_eq_getElem hm)) ?_)
  rw[Nv]
 exact key _ _ em en
end Go.Vs
namespace Go.Vs
open Go.Proofs
variable {G:(f:FuncId)→(g:aK)→Option (g.A→Option g.B)}
theorem HC{α:Type}(x:ab)(es:List (ab×α)):rI b8 x es=es.findIdx? fun e=>decide (e.1=x):=by
 show List.findIdx? (fun e:ab×α=>((x.1.1==e.1.1.1)&&(x.1.2==e.1.1.2))&&(x.2==e.1.2)) es=_
 congr 1
 funext e
 rw[ES x e.1]
 by_cases h:x=e.1
 ·rw[decide_eq_true h,decide_eq_true h.symm]
 ·rw[decide_eq_false h,decide_eq_false (fun k=>h k.symm)]
def eI{β α:Type}[DecidableEq β](x:β):List (β×α)→Option α
 |[]=>none
 |e::r=>if e.1=x then some e.2 else eI x r
theorem HD{β α:Type}[DecidableEq β](x:β):∀es:List (β×α),((es.findIdx? fun e=>decide (e.1=x)).bind fun i=>(es[i]?).map (·.2))=eI x es
 |[]=>rfl
 |e::r=>by
  have ih:=HD x r
  rw[List.findIdx?_cons,eI]
  by_cases h:e.1=x
  ·rw[if_pos (decide_eq_true h),if_pos h];rfl
  ·rw[if_neg (by simpa using h),if_neg h,←ih]
   cases r.findIdx? fun e=>decide (e.1=x)<;>simp
theorem Nx{α:Type}(x:ab)(es:List (ab×α)):ib b8 x es=eI x es:=by
 have:=HD x es
 rw[←HC]at this
 exact this
theorem Ny{α:Type}{x:ab}(v:α){es:List (ab×α)}(h:x∉es.map (·.1)):lx b8 x v es=es++[(x,v)]:=by
 have e:rI b8 x es=none:=by
  rw[HC,List.findIdx?_eq_none_iff]
  intro q hq
  exact decide_eq_false fun k=>h (List.mem_map.2 ⟨q,hq,k⟩)
 unfold lx
 split
 ·rename_i i k;rw[e]at k;cases k
 ·rfl
theorem Fv{β α:Type}[DecidableEq β]{x:β}{v:α}:∀{es:List (β×α)},(es.map (·.1)).Nodup→(x,v)∈es→eI x es=some v
 |[],_,h=>by cases h
 |e::r,hn,h=>by
  simp only[List.map_cons,List.nodup_cons]at hn
  rw[eI]
  rcases List.mem_cons.1 h with e1|h
  ·subst e1;rw[if_pos rfl]
  ·rw[if_neg (fun k=>hn.1 (by rw[k];exact List.mem_map.2 ⟨_,h,rfl⟩))]
   exact Fv hn.2 h
def gq:List ah→Nat→List (ab×Int)
 |[],_=>[]
 |v::r,i=>v.2.1.map (fun x=>(x,(i:Int)))++gq r (i+1)
theorem vl:∀(l:List ah) (i:Nat),(gq l i).map (·.1)=an l
 |[],_=>rfl
 |v::r,i=>by
  have e:(v.2.1.map fun x=>(x,(i:Int))).map (·.1)=v.2.1:=by rw[List.map_map];exact List.map_id _
  rw[gq,jl,List.map_append,vl r,e]
theorem Fw:∀(a b:List ah) (i:Nat),gq (a++b) i=gq a i++gq b (i+a.length)
 |[],b,i=>rfl
 |v::r,b,i=>by
  rw[List.cons_append,gq,gq,Fw r b,List.append_assoc]
  congr 3
  simp;omega
theorem Fx{x:ab}{a:Int}:∀{l:List ah} {i:Nat},(x,a)∈gq l i→∃k v,l[k]? = some v∧a=((i+k:Nat):Int)∧x∈v.2.1
 |[],i,h=>by cases h
 |v::r,i,h=>by
  rw[gq]at h
  rcases List.mem_append.1 h with h|h
  ·obtain⟨y,hy,e⟩:=List.mem_map.1 h
   cases e
   exact⟨0,v,rfl,rfl,hy⟩
  ·obtain⟨k,u,h1,h2,h3⟩:=Fx h
   exact⟨k+1,u,by simpa using h1,by rw[h2];congr 1;omega,h3⟩
theorem IV{x:ab}:∀{l:List ah} {i k:Nat} {v:ah},l[k]? = some v→x∈v.2.1→(x,((i+k:Nat):Int))∈gq l i
 |v::r,i,0,u,h,hx=>by
  simp at h;subst h
  rw[gq];exact List.mem_append_left _ (List.mem_map.2 ⟨x,hx,rfl⟩)
 |v::r,i,k+1,u,h,hx=>by
  rw[gq]
  refine List.mem_append_right _ ?_
  have:=IV (i:=i+1) (k:=k) (by simpa using h) hx
  rwa [show i+1+k=i+(k+1) by omega]at this
theorem Nz(i:Nat):fI (List.range i)++[(i:Int)]=fI (List.range (i+1)):=by rw[List.range_succ];simp[fI]
section
variable {d:ak} {y:gm.B}
theorem PQ(h:Wf d){i:Nat}(hi:i<d.1.length){f:List Int}{nn:Int}
  (next:LX G 256 gm Tryz.f256 qu (bY Tryz.prog 256 0) ((d.1,(nn,((IntKind.wrap .i64 ((i:Int)+1)),()))),((),(f,(gq (d.1.take (i+1)) 0,()))))=some y):∀(n j:Nat) (es:List (ab×Int)),j+n=d.1[i].2.1.length→es=gq (d.1.take i) 0++(d.1[i].2.1.take j).map (fun x=>(x,(i:Int))) →
  LX G 256 gm Tryz.f256 tG (bY Tryz.prog 256 1) (((i:Int),(d.1,(nn,((i:Int),(d.1[i].2.1,(((d.1[i].2.1.length:Nat):Int),((j:Int),()))))))),((),(f,(es,()))))=some y:=by
 have hr:=h.vh d.1[i] (List.getElem_mem hi)
 have et:d.1.take (i+1)=d.1.take i++[d.1[i]]:=(List.take_append_getElem hi).symm
 have ev:gq (d.1.take (i+1)) 0=gq (d.1.take i) 0++d.1[i].2.1.map (fun x=>(x,(i:Int))):=by
  rw[et,Fw]
  have:(d.1.take i).length=i:=by rw[List.length_take];omega
  rw[this,Nat.zero_add]
  congr 1
  show d.1[i].2.1.map (fun x=>(x,(i:Int)))++[]=_
  rw[List.append_nil]
 have nd:(an (d.1.take i)++d.1[i].2.1).Nodup:=by
  have h1:=h.rw.n
  rw[←List.take_append_drop (i+1) d.1,et,mV,mV]at h1
  have e2:an [d.1[i]]=d.1[i].2.1:=by rw[jl];exact List.append_nil _
  rw[e2]at h1
  exact(List.nodup_append.1 h1).1
 intro n
 induction n with
 |zero =>
  intro j es hj he
  refine aQ (j:=1) (by kernel_rfl) ((Ip _ _ _).trans ?_)
  refine af (decide_eq_false (show ¬((j:Int)<((d.1[i].2.1.length:Nat):Int)) by omega)) ?_
  have e:d.1[i].2.1.take j=d.1[i].2.1:=List.take_of_length_le (by omega)
  rw[e,←ev]at he
  subst he
  exact next
 |succ n ih =>
  intro j es hj he
  have aG:j<d.1[i].2.1.length:=by omega
  refine aQ (j:=1) (by kernel_rfl) ((Ip _ _ _).trans ?_)
  refine ae (cg aG) (aa (bZ (List.getElem?_eq_getElem aG)) ?_)
  have As:d.1[i].2.1[j]∉es.map (·.1):=by
   have e3:((d.1[i].2.1.take j).map fun x=>(x,(i:Int))).map (·.1)=d.1[i].2.1.take j:=by rw[List.map_map];exact List.map_id _
   rw[he,List.map_append,vl,e3,List.mem_append]
   rintro(k|k)
   ·exact(List.nodup_append.1 nd).2.2 _ k _ (List.getElem_mem aG) rfl
   ·obtain⟨q,hq,he⟩:=List.getElem_of_mem k
    have Y3:q<j:=by rw[List.length_take]at hq;omega
    rw[List.getElem_take]at he
    have:=(List.getElem_inj (List.nodup_append.1 nd).2.1).1 he
    omega
  have:=ih (j+1) (lx b8 d.1[i].2.1[j] (i:Int) es) (by omega) (by
   rw[Ny _ As,he,←List.take_append_getElem aG,List.map_append,List.append_assoc];rfl)
  rw[←bz aG (by omega)]at this
  exact this
theorem PR(h:Wf d)
  (next:LX G 256 gm Tryz.f256 nQ (bY Tryz.prog 256 2) ((gq d.1 0,()),((),(fI (List.range d.1.length),((none,gq d.1 0),()))))=some y):∀(n i:Nat),i+n=d.1.length →
  LX G 256 gm Tryz.f256 qu (bY Tryz.prog 256 0) ((d.1,(((d.1.length:Nat):Int),((i:Int),()))),((),(fI (List.range i),(gq (d.1.take i) 0,()))))=some y:=by
 have hn:=h.nv
 intro n
 induction n with
 |zero =>
  intro i hi
  have e:i=d.1.length:=by omega
  subst e
  refine aQ (j:=0) (by kernel_rfl) ((Io _ _ _).trans ?_)
  refine af (decide_eq_false (show ¬(((d.1.length:Nat):Int)<((d.1.length:Nat):Int)) by omega)) ?_
  rw[List.take_length]
  exact next
 |succ n ih =>
  intro i hi
  have aG:i<d.1.length:=by omega
  refine aQ (j:=0) (by kernel_rfl) ((Io _ _ _).trans ?_)
  refine ae (cg aG) (aa (bZ (List.getElem?_eq_getElem aG)) ?_)
  refine ae (fits (by show(fI (List.range i)).length+1≤_;rw[zR];simp;omega)) ?_
  have nx:=ih (i+1) (by omega)
  rw[←bz aG (by omega),←Nz]at nx
  exact PQ (G:=G) h aG nx d.1[i].2.1.length 0 _ (by omega) (by simp)
end
end Go.Vs
namespace Go.Vs
open Go.Proofs
variable {G:(f:FuncId)→(g:aK)→Option (g.A→Option g.B)}
theorem zX(a b:Nat):zU a b a=min a b∧zU a b b=min a b:=by
 unfold zU
 constructor<;>split<;>omega
structure WI(d:ak)(rem:List (ab×Int))(g:List Nat):Prop where
 f:Fo g
 n:g.length=d.1.length
 c:∀i,i<d.1.length→cx d (cr d i) (cr d (root g i))
 p:∀(z:ab) (i k:Nat),(z,(i:Int))∈gq d.1 0→(ao z,(k:Int))∈gq d.1 0→(z,(i:Int))∉rem→root g i=root g k
theorem tY{d:ak}(h:Wf d){z:ab}{a:Int}(hm:(z,a)∈gq d.1 0):∃i:Nat,i<d.1.length∧a=(i:Int)∧z∈an d.1∧fa d z=some (cr d i):=by
 obtain⟨k,v,h1,h2,h3⟩:=Fx hm
 rw[Nat.zero_add]at h2
 have hv:=List.mem_of_getElem? h1
 refine⟨k,(List.getElem?_eq_some_iff.1 h1).1,h2,aV.2 ⟨v,hv,h3⟩,?_⟩
 rw[lS h1]
 exact iH h.rw hv h3
theorem HE{d:ak}(h:Wf d){z:ab}(hz:z∈an d.1):∃i:Nat,(z,(i:Int))∈gq d.1 0:=by
 obtain⟨v,hv,hx⟩:=aV.1 hz
 obtain⟨k,hk⟩:=List.getElem?_of_mem hv
 have:=IV (i:=0) hk hx
 rw[Nat.zero_add]at this
 exact⟨k,this⟩
theorem IW{d:ak}(h:Wf d){z:ab}{a:Int}(hm:(z,a)∈gq d.1 0):ib b8 z (gq d.1 0)=some a:=by
 rw[Nx]
 refine Fv ?_ hm
 rw[vl];exact h.rw.n
theorem WI.same{d:ak}(h:Wf d){g:List Nat}(hg:WI d [] g){a b:ID}(k:cx d a b):∀i j,i<d.1.length→j<d.1.length→cr d i=a→cr d j=b→root g i=root g j:=by
 induction k with
 |refl=>intro i j hi hj h1 h2;rw[iJ h.sv hi hj (h1.trans h2.symm)]
 |tail _ s ih =>
  intro i j hi hj h1 h2
  obtain⟨z,hz,s1,s2⟩:=s
  obtain⟨m,hm⟩:=HE h hz
  obtain⟨q,hq⟩:=HE h (h.other hz)
  obtain⟨m',m1,m2,_,m3⟩:=tY h hm
  obtain⟨q',q1,q2,_,q3⟩:=tY h hq
  have em:m'=m:=by omega
  have eq:q'=q:=by omega
  subst em;subst eq
  rw[s1]at m3;rw[s2]at q3
  have r1:=ih i m' hi m1 h1 (Option.some.inj m3).symm
  have r2:=hg.p z m' q' hm hq (by simp)
  have ej:q'=j:=iJ h.sv q1 hj ((Option.some.inj q3).symm.trans h2.symm)
  rw[r1,r2,ej]
theorem WI.can{d:ak}(h:Wf d){g:List Nat}(hg:WI d [] g):Fm d (fI ((List.range d.1.length).map (root g))):=by
 have l9:∀i,i<d.1.length→(fI ((List.range d.1.length).map (root g))).getD i 0=((root g i:Nat):Int):=fun i hi=>by
  unfold fI;simp[List.getD,hi]
 refine⟨⟨by rw[zR];simp,fun i hi=>⟨root g i,IU g i,l9 i hi,hg.c i hi⟩⟩,fun i hi j hj k=>?_⟩
 rw[l9 i hi,hg.same h k i j hi hj rfl rfl]
 have:=IU g j
 omega
theorem PS(hG:HG G){d:ak}(h:Wf d){g:List Nat}:∀(n i:Nat) (g':List Nat),i+n=d.1.length→Fo g'→g'.length=d.1.length→(∀j,root g' j=root g j) →
  LX G 256 gm Tryz.f256 tH (bY Tryz.prog 256 3) ((((d.1.length:Nat):Int),((i:Int),())),((),(fI g',(fI ((List.range i).map (root g)),()))))=some ((fI ((List.range d.1.length).map (root g)),()),()):=by
 have OD:=h.nv
 intro n
 induction n with
 |zero =>
  intro i g' hi h1 h2 h3
  have e:i=d.1.length:=by omega
  subst e
  refine aQ (j:=3) (by kernel_rfl) ((Ir _ _ _).trans ?_)
  exact af (decide_eq_false (show ¬(((d.1.length:Nat):Int)<((d.1.length:Nat):Int)) by omega)) rfl
 |succ n ih =>
  intro i g' hi h1 h2 h3
  have aG:i<d.1.length:=by omega
  obtain⟨g2,s,e⟩:=Nw hG g' i h1 (by omega)
  refine aQ (j:=3) (by kernel_rfl) ((Ir _ _ _).trans ?_)
  refine ae (cg aG) (aa e ?_)
  refine ae (fits (by show(fI _).length+1≤_;rw[zR];simp;omega)) ?_
  have:=ih (i+1) g2 (by omega) s.f (by rw[s.n,h2]) (fun j=>(s.r j).trans (h3 j))
  have e2:fI ((List.range (i+1)).map (root g))=fI ((List.range i).map (root g))++[((root g' i:Nat):Int)]:=by
   rw[List.range_succ,h3 i];simp[fI]
  rw[e2,←bz aG (by omega)]at this
  exact this
theorem PT(hG:HG G){d:ak}(h:Wf d):∀(n:Nat) (rem:List (ab×Int)) (g:List Nat) (o:Option (ab×Int)),rem.length=n→(∀e∈rem,e∈gq d.1 0)→WI d rem g →
  LX G 256 gm Tryz.f256 nQ (bY Tryz.prog 256 2) ((gq d.1 0,()),((),(fI g,((o,rem),()))))=some ((labels d,()),()):=by
 intro n
 induction n with
 |zero =>
  intro rem g o hn hr hg
  have e:rem=[]:=List.eq_nil_of_length_eq_zero hn
  subst e
  refine aQ (j:=2) (by kernel_rfl) ((Iq _ _ _).trans ?_)
  refine ae rfl ?_
  have:=PS (G:=G) hG h (g:=g) d.1.length 0 g (by omega) hg.f hg.n (fun _=>rfl)
  rw[(hg.can h).uniq h (ep h)]at this
  have e2:((fI g).length:Int)=((d.1.length:Nat):Int):=by rw[zR,hg.n]
  rw[←e2]at this
  exact this
 |succ n ih =>
  intro rem g o hn hr hg
  refine aQ (j:=2) (by kernel_rfl) ((Iq _ _ _).trans ?_)
  refine af (show rem.isEmpty=false by cases rem with|nil=>simp at hn|cons _ _=>rfl) ?_
  refine kf (show 0<rem.length by omega) fun j hj=>?_
  have hj':j<rem.length:=hj
  refine aa (List.getElem?_eq_getElem hj') ?_
  have hm:=hr _ (List.getElem_mem hj')
  generalize he:rem[j]=e at hm
  obtain⟨z,a⟩:=e
  obtain⟨i,hi,ha,hz,haz⟩:=tY h hm
  subst ha
  obtain⟨k,hk⟩:=HE h (h.other hz)
  obtain⟨k',wA,ek,_,hak⟩:=tY h hk
  have ek':k'=k:=by omega
  subst ek'
  refine aa (E8 (hG _ _ rfl) z (h.side hz)) ?_
  have l9:ib b8 (ao z) (gq d.1 0)=some (k':Int):=IW h hk
  refine ae (show(ib b8 (ao z) (gq d.1 0)).isSome=true by rw[l9];rfl) ?_
  obtain⟨g',h1,h2,h3,h4⟩:=WH hG g i k' hg.f (by rw[hg.n];exact hi) (by rw[hg.n];exact wA)
  refine aa (a:=((),(fI g',()))) (by
   have:(ib b8 (ao z) (gq d.1 0)).getD (0:Int)=(k':Int):=by rw[l9];rfl
   rw[←this]at h4
   exact h4) ?_
  have aaM:Fk d (cr d i) (cr d k'):=⟨z,hz,haz,hak⟩
  have cij:cx d (cr d (root g i)) (cr d (root g k')):=((hg.c i hi).symm h).trans (aaM.conn.trans (hg.c k' wA))
  refine ih (rem.eraseIdx j) g' _ (by rw[List.length_eraseIdx,if_pos hj'];omega) (fun e he=>hr e (List.mem_of_mem_eraseIdx he)) ⟨h1,h2.trans hg.n,fun q hq=>?_,fun y p q hp hq hy=>?_⟩
  ·rw[h3 q]
   unfold zU
   split
   ·rename_i e
    refine(hg.c q hq).trans ?_
    rw[e]
    rcases Nat.le_total (root g i) (root g k') with hle|hle
    ·rw[Nat.max_eq_right hle,Nat.min_eq_left hle];exact cij.symm h
    ·rw[Nat.max_eq_left hle,Nat.min_eq_right hle];exact cij
   ·exact hg.c q hq
  ·rw[h3 p,h3 q]
   by_cases lr:(y,(p:Int))∈rem
   ·
    have e:(y,(p:Int))=(z,(i:Int)):=by
     apply Classical.byContradiction
     intro ne
     apply hy
     rw[List.mem_eraseIdx_iff_getElem]
     obtain⟨t,ht,hte⟩:=List.getElem_of_mem lr
     refine⟨t,ht,fun k=>?_,hte⟩
     subst k
     exact ne (hte.symm.trans he)
    have e1:y=z:=congrArg Prod.fst e
    have e2:p=i:=by have:=congrArg Prod.snd e;simp at this;omega
    subst e1;subst e2
    have h5:=IW h hq
    rw[l9]at h5
    have e3:q=k':=by have:=Option.some.inj h5;omega
    subst e3
    rw[(zX _ _).1,(zX _ _).2]
   ·rw[hg.p y p q hp hq lr]
theorem HF(n:Nat):∀i,root (List.range n) i=i:=fun i=>by
 cases h:(List.range n)[i]? with
 |none=>exact kz h
 |some x =>
  have:x=i:=by rw[List.getElem?_range (by have:=(List.getElem?_eq_some_iff.1 h).1;simpa using this)]at h;exact(Option.some.inj h).symm
  subst this
  exact kA h
theorem WJ(hG:HG G)(d:ak)(h:Wf d):FX G 256 gm ((d,()),())=some ((labels d,()),()):=by
 refine aI (fn:=Tryz.f256) (hG _ _ rfl) (by kernel_rfl) (by kernel_rfl) ((Vn _ _ _).trans ?_)
 refine PR (G:=G) h ?_ d.1.length 0 (by omega)
 refine PT hG h _ (gq d.1 0) (List.range d.1.length) none rfl (fun _ k=>k) ⟨fun i x hx=>?_,by simp,fun i hi=>?_,fun z i k h1 h2 h3=>absurd h1 h3⟩
 ·have:=(List.getElem?_eq_some_iff.1 hx).1
  rw[List.getElem?_range (by simpa using this)]at hx
  have:=Option.some.inj hx;omega
 ·rw[HF];exact .refl _
end Go.Vs
namespace Go.Vs
open Go.Proofs
variable {G:(f:FuncId)→(g:aK)→Option (g.A→Option g.B)}
structure PG(G:(f:FuncId)→(g:aK)→Option (g.A→Option g.B)):Prop where
 h:HG G
 f:∀d,Wf d→FX G 240 vZ ((d,()),())=some ((cQ d,()),())
 c:∀d,Wf d→FX G 241 v5 ((d,()),())=some ((fS d,()),())
theorem WK(hp:PG G)(d:ak)(h:Wf d):FX G 226 Er ((d,()),())=some ((((d.1.length:Nat):Int),(((d.2.length:Nat):Int),(((ft d:Nat):Int),(fS d,())))),()):=by
 have hn:=h.nv
 have hf:=tX h
 have ha:al d.1≤d.1.length:=List.countP_le_length
 refine aI (fn:=Tryz.f226) (hp.h _ _ rfl) (by kernel_rfl) (by kernel_rfl) ((Vg _ _ _).trans ?_)
 refine aa (Nu hp.h d.1 (by omega)) ?_
 refine aa (hp.f d h) (aa (hp.c d h) ?_)
 have e:IntKind.wrap .i64 ((((cQ d).length:Nat):Int)+((al d.1:Nat):Int))=((ft d:Nat):Int):=by
  rw[wrap_small (by omega) (by omega)];rfl
 exact congrArg (fun n:Int=>some ((((d.1.length:Nat):Int),(((d.2.length:Nat):Int),(n,(fS d,())))),())) e
theorem WL(hp:PG G)(d:ak)(h:Wf d):FX G 204 Em ((d,()),())=some ((nV d,()),()):=by
 have hn:=h.nv;have aU:=h.ne
 have hf:=tX h
 have ha:al d.1≤d.1.length:=List.countP_le_length
 refine aI (fn:=Tryz.f204) (hp.h _ _ rfl) (by kernel_rfl) (by kernel_rfl) ((U5 _ _ _).trans ?_)
 refine aa (WK hp d h) (af rfl ?_)
 have hr:=lT h (ep h)
 obtain⟨k,e1,e2⟩:=Nq h hr
 have ec:=qJ h
 have L5:(j4 d (labels d)).length≤d.1.length:=by
  unfold j4
  rw[List.length_map]
  refine Nat.le_trans (List.length_filter_le _ _) ?_
  simp
 have Uv:ft d≤80+d.1.length:=by unfold ft;omega
 refine congrArg (fun n:Int=>some ((n,()),())) ?_
 show IntKind.wrap .i64 (fS d-IntKind.wrap .i64 (Int.tdiv (IntKind.wrap .i64 ((IntKind.wrap .i64 (((d.1.length:Nat):Int)-((d.2.length:Nat):Int)))+((ft d:Nat):Int))) 2))=nV d
 rw[e1,ec]
 have hk:(k:Int)≤1000:=by omega
 rw[wrap_small (n:=((d.1.length:Nat):Int)-((d.2.length:Nat):Int)) (by omega) (by omega)]
 rw[wrap_small (n:=((d.1.length:Nat):Int)-((d.2.length:Nat):Int)+((ft d:Nat):Int)) (by omega) (by omega)]
 have e3:((d.1.length:Nat):Int)-((d.2.length:Nat):Int)+((ft d:Nat):Int)=2*((((j4 d (labels d)).length:Nat):Int)-(k:Int)):=by omega
 rw[e3,Int.mul_tdiv_cancel_left _ (by decide)]
 rw[wrap_small (n:=(((j4 d (labels d)).length:Nat):Int)-(k:Int)) (by omega) (by omega)]
 rw[wrap_small (by omega) (by omega)]
 omega
theorem PU(hp:PG G):Hz G:=fun d h=>by
 refine aI (fn:=Tryz.f172) (hp.h _ _ rfl) (by kernel_rfl) (by kernel_rfl) ((UK _ _ _).trans ?_)
 refine aa (WL hp d h) ?_
 refine congrArg (fun b:Bool=>some ((b,()),())) ?_
 show(nV d==0)=decide (nV d=0)
 rw[Bool.eq_iff_iff];simp
end Go.Vs
