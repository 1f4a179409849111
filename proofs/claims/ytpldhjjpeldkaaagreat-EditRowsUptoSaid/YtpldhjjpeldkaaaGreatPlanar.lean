/- What the program computes of faces, parts and whether a diagram lies in the plane. -/
import Derived.Test.YtpldhjjpeldkaaaGreatSplits
import Derived.Test.YtpldhjjpeldkaaaGreatEuler
set_option linter.unusedVariables false
set_option linter.unusedSimpArgs false
namespace Go.Vs
open Go.Proofs
variable {G:(f:FuncId)→(g:aJ)→Option (g.A→Option g.B)}
theorem IV(w:ah)(r:List ah)(x:ID):aR (w::r) x=if w.1=x then some w else aR r x:=by
 unfold aR;rw [List.find?_cons];by_cases h:w.1=x<;>simp [h]
theorem PF(hG:HG G)(l:List ah)(x:ID)(hl:l.length≤1073741824):FX G 151149 jY ((l,x,()),())=some (oP zV (aR l x),()):=by
 refine ar (fn:=Tryz.f149) (hG _ _ rfl) (by kernel_rfl) (by kernel_rfl) ((Ow _ _ _).trans ?_)
 have loop:∀(n i:Nat),i+n=l.length→LX G 151149 jY Tryz.f149 ly (aP Tryz.prog 149 0) ((l,(((l.length:Nat):Int),((i:Int),()))),(((x,()),(((0:Int),((0:Int),(([]:List ab),(e0,((0:Int),()))))),())),()))=some (oP zV (aR (l.drop i) x),()):=by
  intro n
  induction n with
  | zero =>
   intro i hi
   refine au (j:=0) (by kernel_rfl) ((Ao _ _ _).trans ?_)
   refine ag (decide_eq_false (show ¬((i:Int)<((l.length:Nat):Int)) by omega)) ?_
   rw [List.drop_eq_nil_of_le (by omega)];rfl
  | succ n ih =>
   intro i hi
   have aH:i<l.length:=by omega
   have aez:FX G 150 FQ ((l[i],()),())=some ((l[i].1,()),()):=ar (fn:=Tryz.f150) (hG _ _ rfl) (by kernel_rfl) (by kernel_rfl) (XM _ _ _)
   refine au (j:=0) (by kernel_rfl) ((Ao _ _ _).trans ?_)
   refine ae (aX aH) (aa (aK (List.getElem?_eq_getElem aH)) ?_)
   refine aa aez ?_
   rw [List.drop_eq_getElem_cons aH,IV]
   by_cases he:l[i].1=x
   ·rw [if_pos he]
    exact ae ((iY l[i].1 x).trans (decide_eq_true he)) rfl
   ·rw [if_neg he]
    refine ag ((iY l[i].1 x).trans (decide_eq_false he)) ?_
    have:=ih (i+1) (by omega)
    rw [←aI aH hl] at this
    exact this
 have:=loop l.length 0 (by omega)
 rw [List.drop_zero] at this
 exact this
theorem Y6(hG:HG G)(d:ai)(x:ID)(hs:Sm d):FX G 131 FN ((d,x,()),())=some (oP zV (bh d x),()):=by
 have hv:=hs.v
 refine ar (fn:=Tryz.f131) (hG _ _ rfl) (by kernel_rfl) (by kernel_rfl) ((Xz _ _ _).trans ?_)
 refine aa (PF hG d.1 x (by omega)) ?_
 unfold bh
 cases hf:aR d.1 x with
 | none=>exact aa (UE (hG _ _ rfl) [] (by simp)) rfl
 | some v=>exact aa (UE (hG _ _ rfl) v.2.1 (hs.r v (fW hf))) rfl
theorem PH(w:ah)(r:List ah)(x:ab):Gn (w::r) x=if x∈w.2.1 then some w.1 else Gn r x:=by
 unfold Gn;rw [List.find?_cons];by_cases h:x∈w.2.1<;>simp [h]
theorem Tj(hG:HG G)(d:ai)(x:ab)(hs:Sm d):FX G 151 tU ((d,x,()),())=some (oP zI (cp d x),()):=by
 have hv:=hs.v
 refine ar (fn:=Tryz.f151) (hG _ _ rfl) (by kernel_rfl) (by kernel_rfl) ((XN _ _ _).trans ?_)
 have loop:∀(n i:Nat),i+n=d.1.length→LX G 151 tU Tryz.f151 uc (aP Tryz.prog 151 0) ((d.1,(((d.1.length:Nat):Int),((i:Int),()))),(((x,()),((zI,()),())),()))=some (oP zI (Gn (d.1.drop i) x),()):=by
  intro n
  induction n with
  | zero =>
   intro i hi
   refine au (j:=0) (by kernel_rfl) ((JG _ _ _).trans ?_)
   refine ag (decide_eq_false (show ¬((i:Int)<((d.1.length:Nat):Int)) by omega)) ?_
   rw [List.drop_eq_nil_of_le (by omega)];rfl
  | succ n ih =>
   intro i hi
   have aH:i<d.1.length:=by omega
   refine au (j:=0) (by kernel_rfl) ((JG _ _ _).trans ?_)
   refine ae (aX aH) (aa (aK (List.getElem?_eq_getElem aH)) ?_)
   refine aa (CI hG d.1[i].2.1 x (by have:=hs.r _ (List.getElem_mem aH);omega)) ?_
   rw [List.drop_eq_getElem_cons aH,PH]
   by_cases he:x∈d.1[i].2.1
   ·rw [if_pos he]
    exact ae (decide_eq_true he) rfl
   ·rw [if_neg he]
    refine ag (decide_eq_false he) ?_
    have:=ih (i+1) (by omega)
    rw [←aI aH (by omega)] at this
    exact this
 have:=loop d.1.length 0 (by omega)
 rw [List.drop_zero] at this
 exact this
def IW(x:ab):List ak→Int→Int
 | [],_ => -1
 | g::r,i=>if g.1=x then i else IW x r (i+1)
theorem G3(x:ab):∀(l:List ak) (i:Nat),(IW x l i = -1∧fM l x=none)∨∃k g,IW x l (i:Int)=((i+k:Nat):Int)∧l[k]? = some g∧fM l x=some g.2
 | [],i=>.inl ⟨rfl,rfl⟩
 | g::r,i=>by
  rw [IW,oz]
  by_cases h:g.1=x
  ·rw [if_pos h,if_pos h]
   exact .inr ⟨0,g,by simp,by simp,rfl⟩
  ·rw [if_neg h,if_neg h]
   have e:(i:Int)+1=((i+1:Nat):Int):=by omega
   rw [e]
   rcases G3 x r (i+1) with ⟨h1,h2⟩ | ⟨k,q,h1,h2,h3⟩
   ·exact .inl ⟨h1,h2⟩
   ·exact .inr ⟨k+1,q,by rw [h1];congr 1;omega,by simpa using h2,h3⟩
theorem PI(hG:HG G)(l:List ak)(x:ab)(hl:l.length≤1073741824):FX G 164162 iR ((l,()),((x,()),()))=some ((IW x l 0,()),((x,()),())):=by
 refine ar (fn:=Tryz.f162) (hG _ _ rfl) (by kernel_rfl) (by kernel_rfl) ((Oy _ _ _).trans ?_)
 have loop:∀(n i:Nat),i+n=l.length→LX G 164162 iR Tryz.f162 jv (aP Tryz.prog 162 0) ((l,(((l.length:Nat):Int),((i:Int),()))),(((x,()),()),()))=some ((IW x (l.drop i) i,()),((x,()),())):=by
  intro n
  induction n with
  | zero =>
   intro i hi
   refine au (j:=0) (by kernel_rfl) ((Aq _ _ _).trans ?_)
   refine ag (decide_eq_false (show ¬((i:Int)<((l.length:Nat):Int)) by omega)) ?_
   rw [List.drop_eq_nil_of_le (by omega)];rfl
  | succ n ih =>
   intro i hi
   have aH:i<l.length:=by omega
   have aeA:FX G 163 FV ((l[i],()),((x.1.1,(x.1.2,(x.2,()))),()))=some (((((l[i].1.1.1==x.1.1)&&(l[i].1.1.2==x.1.2))&&(l[i].1.2==x.2)),()),((x.1.1,(x.1.2,(x.2,()))),())) :=
    ar (fn:=Tryz.f163) (hG _ _ rfl) (by kernel_rfl) (by kernel_rfl) (XS _ _ _)
   refine au (j:=0) (by kernel_rfl) ((Aq _ _ _).trans ?_)
   refine ae (aX aH) (aa (aK (List.getElem?_eq_getElem aH)) ?_)
   refine aa aeA ?_
   rw [List.drop_eq_getElem_cons aH,IW]
   by_cases he:l[i].1=x
   ·rw [if_pos he]
    exact ae ((kh l[i].1 x).trans (decide_eq_true he)) rfl
   ·rw [if_neg he]
    refine ag ((kh l[i].1 x).trans (decide_eq_false he)) ?_
    have:=ih (i+1) (by omega)
    have e:=aI aH hl
    show LX G 164162 iR Tryz.f162 jv (aP Tryz.prog 162 0) ((l,(((l.length:Nat):Int),(IntKind.wrap .i64 ((i:Int)+1),()))),(((x,()),()),()))=some ((IW x (l.drop (i+1)) ((i+1:Nat):Int),()),((x,()),()))
    rw [e]
    exact this
 have:=loop l.length 0 (by omega)
 rw [List.drop_zero] at this
 exact this
theorem Y7(hG:HG G)(l:List ak)(x:ab)(hl:l.length≤1073741824):FX G 152 FR ((l,x,()),())=some (oP zD (fM l x),()):=by
 refine ar (fn:=Tryz.f152) (hG _ _ rfl) (by kernel_rfl) (by kernel_rfl) ((XO _ _ _).trans ?_)
 refine aa (PI hG l x hl) ?_
 rcases G3 x l 0 with ⟨h1,h2⟩ | ⟨k,g,h1,h2,h3⟩
 ·have h1:IW x l 0 = -1:=h1
  rw [h2]
  exact ae (decide_eq_true (show IW x l 0<0 by omega)) rfl
 ·have h1:IW x l 0=(k:Int):=by
   have:IW x l ((0:Nat):Int)=IW x l 0:=rfl
   rw [←this,h1];congr 1;omega
  rw [h3]
  refine ag (decide_eq_false (show ¬IW x l 0<0 by omega)) ?_
  refine aa (show aV l (IW x l 0)=some g by rw [h1];exact aK h2) ?_
  rfl
theorem Y8(hG:HG G)(s:StateT)(x:ab)(hs:Sm s.1)(hg:s.2.length≤50000000):FX G 132 wN ((s,x,()),())=some ((resolve s x,()),()):=by
 refine ar (fn:=Tryz.f132) (hG _ _ rfl) (by kernel_rfl) (by kernel_rfl) ((XA _ _ _).trans ?_)
 have hw:IntKind.wrap .i64 (((s.2.length:Nat):Int)+1)=((s.2.length+1:Nat):Int):=by rw [wrap_small (by omega) (by omega)];rfl
 have loop:∀(n i:Nat) (y:ab),i+n=s.2.length+1→LX G 132 wN Tryz.f132 tY (aP Tryz.prog 132 0) (((IntKind.wrap .i64 (((s.2.length:Nat):Int)+1)),((i:Int),())),(((s,()),((y,()),((zD,()),()))),()))=some ((res s.1 s.2 n y,()),()):=by
  intro n
  induction n with
  | zero =>
   intro i y hi
   refine au (j:=0) (by kernel_rfl) ((JC _ _ _).trans ?_)
   exact ag (decide_eq_false (show ¬((i:Int)<IntKind.wrap .i64 (((s.2.length:Nat):Int)+1)) by rw [hw];omega)) rfl
  | succ n ih =>
   intro i y hi
   refine au (j:=0) (by kernel_rfl) ((JC _ _ _).trans ?_)
   refine ae (decide_eq_true (show ((i:Int)<IntKind.wrap .i64 (((s.2.length:Nat):Int)+1)) by rw [hw];omega)) ?_
   refine aa (Tj hG s.1 y hs) ?_
   rw [res]
   have h1:(oP zI (cp s.1 y)).2.1=(cp s.1 y).isSome:=gP _ _
   cases ha:(cp s.1 y).isSome
   ·rw [if_neg (by simp)]
    refine ag (h1.trans ha) ?_
    refine aa (Y7 hG s.2 y (by omega)) ?_
    cases hf:fM s.2 y with
    | none=>exact ae rfl rfl
    | some z =>
     refine ag rfl ?_
     have:=ih (i+1) z (by omega)
     have e:IntKind.wrap .i64 ((i:Int)+1)=((i+1:Nat):Int):=by rw [wrap_small (by omega) (by omega)];rfl
     rw [←e] at this
     exact this
   ·rw [if_pos rfl]
    exact ae (h1.trans ha) rfl
 exact loop (s.2.length+1) 0 x (by omega)
theorem Y9(hG:HG G)(s:StateT)(c:oU)(hs:Sm s.1)(hg:s.2.length≤50000000):FX G 112 FK ((s,c,()),())=some (aT s c,()):=by
 refine ar (fn:=Tryz.f112) (hG _ _ rfl) (by kernel_rfl) (by kernel_rfl) ((Xl _ _ _).trans ?_)
 refine aa (Y6 hG s.1 c.1 hs) ?_
 unfold aT
 cases hf:bh s.1 c.1 with
 | none=>exact ae rfl rfl
 | some v =>
  refine ag rfl ?_
  refine aa (Y8 hG s c.2 hs hg) ?_
  refine aa (CI hG v.2.1 (resolve s c.2) (by have:=hs.r v (fW hf);omega)) ?_
  show _=some (((c.1,um s c v),((0:Int),())),())
  unfold um
  by_cases hm:resolve s c.2∈v.2.1
  ·rw [if_pos hm]
   exact aY (decide_eq_true hm) rfl
  ·rw [if_neg hm]
   exact aY (decide_eq_false hm) rfl
def IX(G:(f:FuncId)→(g:aJ)→Option (g.A→Option g.B)):Prop:=∀d,Wf d→FX G 114 zJ ((d,()),())=some ((decide (iU d=0),()),())
theorem J8{l:List ah}{e:List af}{c:oU}{v:ah}(hs:bW l)(hf:aR l c.1=some v)(x:ab):l.set (bC l c.1) (v.1,(lz v.2.1 c.2 x,v.2.2))=(bR (l,e) c x).1:=by
 rw [II hs (cX hs hf)]
 have hi:=j7 hf
 have hm:=fW hf
 unfold bR Vs.b5
 rw [←hi,jC (d:=(l,e)) hs hm]
theorem A4{d:ai}(h:Wf d):og d.1 d.2=true:=by
 unfold og
 have h1:=h.nv;have h2:=h.ne
 simp only [Bool.and_eq_true,decide_eq_true_eq,List.all_eq_true]
 exact ⟨by omega,by omega,fun v hv=>by have:=h.vQ v hv;omega⟩
theorem RL(hG:HG G)(hp:IX G)(o:bB):sY G o:=by
 intro s h hm Mm
 have QB:=h.d.nv;have bj:=h.d.ne;have hn:=h.n
 have RG:=h.d.small
 have bO:=Pf hm
 have start:∀(e:Int) (w:aC),bY 92 om Tryz.f92 (FX G) (LX G 92 om Tryz.f92) ((o,()),(aF s,()))=some ((e,()),(w,()))→FX G 92 om ((o,()),(aF s,()))=some ((e,()),(w,())):=fun e w a =>
  ar (fn:=Tryz.f92) (hG _ _ rfl) (by kernel_rfl) (by kernel_rfl) a
 have f110:=S8 hG (aF s) (aS o) h.d.se (by show s.1.2.length≤_;omega)
 unfold rR
 cases hf:(bf s.1.2 (aS o)).isSome with
 | true =>
  have e1:rU (aF s) (aS o)=(12,aF s):=if_pos hf
  rw [e1] at f110
  refine ⟨12,aF s,start _ _ ((Ui _ _ _).trans (ae (A4 h.d) (aa f110 (ae rfl rfl)))),?_⟩
  rw [if_pos (show (gI s.1 (aS o)).isSome=true from hf)];rfl
 | false =>
 rw [if_neg (show ¬(gI s.1 (aS o)).isSome=true by show ¬(bf s.1.2 (aS o)).isSome=true;rw [hf];simp)]
 by_cases Za:40≤s.1.2.length
 ·have e1:rU (aF s) (aS o)=(3,aF s):=(if_neg (show ¬(bf s.1.2 (aS o)).isSome=true by rw [hf];simp)).trans (if_pos Za)
  rw [e1] at f110
  refine ⟨3,aF s,start _ _ ((Ui _ _ _).trans (ae (A4 h.d) (aa f110 (ae rfl rfl)))),?_⟩
  rw [if_pos Za];rfl
 rw [if_neg Za]
 obtain ⟨E,hE⟩:∃E,E=dm (aS o,(e0,0)) s.1.2:=⟨_,rfl⟩
 have e1:rU (aF s) (aS o)=(0,(s.1.1,(E,(s.2,())))):=by rw [hE];exact (if_neg (show ¬(bf s.1.2 (aS o)).isSome=true by rw [hf];simp)).trans (if_neg Za)
 rw [e1] at f110
 obtain ⟨x,hx⟩:∃x:ab,x=(aS o,0):=⟨_,rfl⟩
 obtain ⟨y,hy⟩:∃y:ab,y=(aS o,1):=⟨_,rfl⟩
 have f111:FX G 111 zG ((aS o,()),())=some ((x,y,()),()):=by
  rw [hx,hy];exact ar (fn:=Tryz.f111) (hG _ _ rfl) (by kernel_rfl) (by kernel_rfl) (SO _ _ _)
 have f112:=fun c:oU=>Y9 hG s c h.d.sm (by omega)
 have go:∀(e:Int) (w:aC),LX G 92 om Tryz.f92 lx (aP Tryz.prog 92 0) (((2:Int),((0:Int),())),(((s.1.1,(E,(s.2,()))),((s,()),((x,()),()))),([x,y],([oA o,oB o],()))))=some ((e,()),(w,()))→FX G 92 om ((o,()),(aF s,()))=some ((e,()),(w,())):=fun e w a =>
  start _ _ ((Ui _ _ _).trans (ae (A4 h.d) (aa f110 (ag rfl (aa f111 a)))))
 by_cases hA:(aT s (oA o)).2.1=0
 case neg =>
  rw [if_pos hA]
  have aeB:aT s (oA o)=(zC,(13,())):=by
   unfold aT at hA ⊢
   cases hv:bh s.1 (oA o).1 with
   | none=>rfl
   | some v=>rw [hv] at hA;exact absurd rfl hA
  refine ⟨13,(s.1.1,(E,(s.2,()))),go _ _ ?_,rfl⟩
  refine au (j:=0) (by kernel_rfl) ((vx _ _ _).trans ?_)
  refine ae rfl (ae rfl (aa (a:=oA o) rfl (aa (f112 (oA o)) ?_)))
  rw [aeB]
  exact ae rfl rfl
 rw [if_neg (fun k=>k hA)]
 obtain ⟨va,ca⟩:=oC hA
 obtain ⟨cA,hcA⟩:∃c:oU,c=(aT s (oA o)).1:=⟨_,rfl⟩
 have eA:aT s (oA o)=(cA,(0,())):=by
  rw [hcA]
  have:(aT s (oA o)).2=(0,()):=by
   have h1:(aT s (oA o)).2=((aT s (oA o)).2.1,()):=rfl
   rw [h1,hA]
  rw [←this]
 have cAv:(aR s.1.1 cA.1).isSome=true:=by rw [hcA,ca];exact va
 obtain ⟨v1,tz⟩:=Option.isSome_iff_exists.1 cAv
 have UU:=fW tz
 obtain ⟨d1,LK⟩:∃d1:ai,d1=bR (s.1.1,E) cA x:=⟨_,rfl⟩
 have aeD:s.1.1.set (bC s.1.1 cA.1) (v1.1,(lz v1.2.1 cA.2 x,v1.2.2))=d1.1:=by rw [LK];exact J8 h.d.sv tz x
 have Tk:bW d1.1:=by rw [LK];exact h.d.sv.re _ _
 have hl1:=(List.getElem?_eq_some_iff.1 (cX h.d.sv tz)).1
 have Tl:∀v∈d1.1,v.2.1.length≤50000000:=fun v hv=>by
  rw [LK] at hv
  obtain ⟨w,hw,rfl⟩:=List.mem_map.1 (show v∈s.1.1.map (qR cA.1 (lz (bJ (s.1.1,E) cA.1) cA.2 x)) from hv)
  have h1:=h.d.vQ w hw
  unfold qR
  split
  ·have h2:=wT (bJ (s.1.1,E) cA.1) cA.2 x
   have h3:(bJ (s.1.1,E) cA.1).length≤80:=by
    rw [←j7 tz,jC (d:=(s.1.1,E)) h.d.sv UU]
    exact h.d.vQ v1 UU
   show (lz (bJ (s.1.1,E) cA.1) cA.2 x).length≤50000000
   omega
  ·omega
 have d1l:d1.1.length=s.1.1.length:=by rw [LK];exact fP _ _ _
 have Tn:∀(e:Int) (w:aC),LX G 92 om Tryz.f92 lx (aP Tryz.prog 92 0) (((2:Int),((1:Int),())),(((d1.1,(E,(s.2,()))),((s,()),((x,()),()))),([x,y],([oA o,oB o],()))))=some ((e,()),(w,()))→FX G 92 om ((o,()),(aF s,()))=some ((e,()),(w,())):=fun e w a=>by
  refine go _ _ ?_
  refine au (j:=0) (by kernel_rfl) ((vx _ _ _).trans ?_)
  refine ae rfl (ae rfl (aa (a:=oA o) rfl (aa (f112 (oA o)) ?_)))
  rw [eA]
  refine ag rfl (ag rfl ?_)
  refine aa (oQ hG (s.1.1,(E,(s.2,()))) cA.1 h.d.sv RG.n) ?_
  refine ae (dv (eC _) (aX hl1)) (aa (cX h.d.sv tz) ?_)
  refine ae rfl (aa (a:=x) rfl ?_)
  refine aa (Pd hG v1.2.1 cA.2 x (RG.r v1 UU)) ?_
  refine aa (cX h.d.sv tz) ?_
  have key:∀a1:List ah,a1=d1.1→LX G 92 om Tryz.f92 lx (aP Tryz.prog 92 0) (((2:Int),((1:Int),())),(((a1,(E,(s.2,()))),((s,()),((x,()),()))),([x,y],([oA o,oB o],()))))=some ((e,()),(w,())):=fun a1 C2=>by subst C2;exact a
  exact key _ aeD
 by_cases hB:(aT s (oB o)).2.1=0
 case neg =>
  rw [if_pos hB]
  have aeE:aT s (oB o)=(zC,(13,())):=by
   unfold aT at hB ⊢
   cases hv:bh s.1 (oB o).1 with
   | none=>rfl
   | some v=>rw [hv] at hB;exact absurd rfl hB
  refine ⟨13,(d1.1,(E,(s.2,()))),Tn _ _ ?_,rfl⟩
  refine au (j:=0) (by kernel_rfl) ((vx _ _ _).trans ?_)
  refine ae rfl (ae rfl (aa (a:=oB o) rfl (aa (f112 (oB o)) ?_)))
  rw [aeE]
  exact ae rfl rfl
 rw [if_neg (fun k=>k hB)]
 obtain ⟨vb,cb⟩:=oC hB
 obtain ⟨cB,Zb⟩:∃c:oU,c=if (bh s.1 (oB o).1).isSome=true∧(oB o).2=(aS o,0) then oB o else (aT s (oB o)).1:=⟨_,rfl⟩
 have eB:aT s (oB o)=((aT s (oB o)).1,(0,())):=by
  have:(aT s (oB o)).2=(0,()):=by
   have h1:(aT s (oB o)).2=((aT s (oB o)).2.1,()):=rfl
   rw [h1,hB]
  rw [←this]
 have cB1:cB.1=(oB o).1:=by rw [Zb];split;rfl;exact cb
 have cBv:(aR d1.1 cB.1).isSome=true:=by
  rw [LK]
  exact GF _ (by rw [cB1];exact vb)
 obtain ⟨v2,wh⟩:=Option.isSome_iff_exists.1 cBv
 have Zd:=fW wh
 have ss:=(List.getElem?_eq_some_iff.1 (cX Tk wh)).1
 obtain ⟨d2,QO⟩:∃d2:ai,d2=bR d1 cB y:=⟨_,rfl⟩
 have RM:d1.1.set (bC d1.1 cB.1) (v2.1,(lz v2.2.1 cB.2 y,v2.2.2))=d2.1:=by rw [QO];exact J8 (e:=d1.2) Tk wh y
 have Tp:kr s o=d2:=by
  rw [QO,LK,hcA,Zb,hx,hy,hE];rfl
 have hE2:d2.2=E:=by rw [QO,LK];rfl
 have hwf:Wf d2:=by
  rw [←Tp]
  unfold kr
  have hn0:bf s.1.2 (aS o)=none:=by simpa using hf
  refine h.d.link bO hn0 Za (by rw [ca];exact va) ?_
  rw [←Zb,cB1];exact vb
 have last:∀(e:Int) (w:aC),LX G 92 om Tryz.f92 lx (aP Tryz.prog 92 0) (((2:Int),((2:Int),())),(((d2.1,(E,(s.2,()))),((s,()),((x,()),()))),([x,y],([oA o,oB o],()))))=some ((e,()),(w,()))→FX G 92 om ((o,()),(aF s,()))=some ((e,()),(w,())):=fun e w a=>by
  refine Tn _ _ ?_
  refine au (j:=0) (by kernel_rfl) ((vx _ _ _).trans ?_)
  refine ae rfl (ae rfl (aa (a:=oB o) rfl (aa (f112 (oB o)) ?_)))
  rw [eB]
  have key:∀a2:List ah,a2=d2.1→LX G 92 om Tryz.f92 lx (aP Tryz.prog 92 0) (((2:Int),((2:Int),())),(((a2,(E,(s.2,()))),((s,()),((x,()),()))),([x,y],([oA o,oB o],()))))=some ((e,()),(w,())):=fun a2 BW=>by subst BW;exact a
  refine ag rfl (ae rfl ?_)
  have oS:=kh (oB o).2 x
  by_cases VI:(oB o).2=x
  ·have ecB:cB=oB o:=by rw [Zb];exact if_pos ⟨vb,VI.trans hx⟩
   refine ae (oS.trans (decide_eq_true VI)) ?_
   rw [ecB] at wh ss RM
   refine aa (oQ hG (d1.1,(E,(s.2,()))) (oB o).1 Tk (by show d1.1.length≤_;omega)) ?_
   refine ae (dv (eC _) (aX ss)) (aa (cX Tk wh) ?_)
   refine ae rfl (aa (a:=y) rfl ?_)
   refine aa (Pd hG v2.2.1 (oB o).2 y (Tl v2 Zd)) ?_
   refine aa (cX Tk wh) ?_
   exact key _ RM
  ·have ecB:cB=(aT s (oB o)).1:=by rw [Zb];exact if_neg (fun k=>VI (k.2.trans hx.symm))
   refine ag (oS.trans (decide_eq_false VI)) ?_
   rw [ecB] at wh ss RM
   refine aa (oQ hG (d1.1,(E,(s.2,()))) (aT s (oB o)).1.1 Tk (by show d1.1.length≤_;omega)) ?_
   refine ae (dv (eC _) (aX ss)) (aa (cX Tk wh) ?_)
   refine ae rfl (aa (a:=y) rfl ?_)
   refine aa (Pd hG v2.2.1 (aT s (oB o)).1.2 y (Tl v2 Zd)) ?_
   refine aa (cX Tk wh) ?_
   exact key _ RM
 have f114:=hp d2 hwf
 rw [Tp]
 have e2:(d2.1,E)=d2:=by rw [←hE2]
 by_cases hg:iU d2=0
 ·rw [if_neg (fun k=>k hg)]
  refine ⟨0,(d2.1,(E,(s.2,()))),last _ _ ?_,?_⟩
  ·refine au (j:=0) (by kernel_rfl) ((vx _ _ _).trans ?_)
   refine ag rfl ?_
   have key:∀q:ai,q=d2→((FX G 114 zJ ((q,()),())).bind fun (F5:((Bool×Unit)×Unit))=>cond (not F5.1.1) (some (((15:Int),()),((d2.1,(E,(s.2,()))),()))) (some (((0:Int),()),((d2.1,(E,(s.2,()))),()))))=some (((0:Int),()),((d2.1,(E,(s.2,()))),())):=fun q hq=>by
    subst hq
    exact aa f114 (aY (decide_eq_true hg) rfl)
   exact key _ e2
  ·show (xU (d2.1,(E,(s.2,()))),((0:Int),()))=((d2,s.2),(0,()))
   show (((d2.1,E),s.2),((0:Int),()))=((d2,s.2),(0,()))
   rw [e2]
 ·rw [if_pos hg]
  refine ⟨15,(d2.1,(E,(s.2,()))),last _ _ ?_,rfl⟩
  refine au (j:=0) (by kernel_rfl) ((vx _ _ _).trans ?_)
  refine ag rfl ?_
  have key:∀q:ai,q=d2→((FX G 114 zJ ((q,()),())).bind fun (F5:((Bool×Unit)×Unit))=>cond (not F5.1.1) (some (((15:Int),()),((d2.1,(E,(s.2,()))),()))) (some (((0:Int),()),((d2.1,(E,(s.2,()))),()))))=some (((15:Int),()),((d2.1,(E,(s.2,()))),())):=fun q hq=>by
   subst hq
   exact aa f114 (aY (decide_eq_false hg) rfl)
  exact key _ e2
end Go.Vs
namespace Go.Vs
open Go.Proofs
variable {G:(f:FuncId)→(g:aJ)→Option (g.A→Option g.B)}
theorem Ze(hG:HG G)(row:List ab)(d:ab)(hl:row.length≤100000000):FX G 182 F2 ((row,d,()),())=some (Gk (du row d 1),()):=by
 refine ar (fn:=Tryz.f182) (hG _ _ rfl) (by kernel_rfl) (by kernel_rfl) ((X0 _ _ _).trans ?_)
 have key:FX G 157 zO ((row,(d,((1:Int),()))),())=some (Gk (du row d 1),()):=by
  refine ar (fn:=Tryz.f157) (hG _ _ rfl) (by kernel_rfl) (by kernel_rfl) ((SP _ _ _).trans ?_)
  refine aa (AE (hG _ _ rfl) row d (by omega)) ?_
  unfold du
  by_cases hd:d∈row
  ·rw [if_pos hd]
   obtain ⟨k,h1,h2,h3⟩:=eT hd
   have aH:=(List.getElem?_eq_some_iff.1 h2).1
   refine ag (decide_eq_false (show ¬idx d row 0<0 by omega)) ?_
   refine ag (D8 hd) ?_
   have Q9:IntKind.wrap .i64 (idx d row 0+1)=((k+1:Nat):Int):=by rw [h1,wrap_small (by omega) (by omega)];rfl
   have vF:(k+1) % row.length<row.length:=Nat.mod_lt _ (by omega)
   have hx:=List.getElem?_eq_getElem vF
   refine aa (show aV row (Int.tmod (IntKind.wrap .i64 (idx d row 0+1)) ((row.length:Nat):Int))=some row[(k+1) % row.length] by rw [Q9,qd];exact aK hx) ?_
   rw [h1,Int.toNat_natCast,hx];rfl
  ·rw [if_neg hd]
   exact ae (decide_eq_true (dU.2 hd)) rfl
 refine aa key ?_
 rfl
def G4(x:ab):List ah→Option ab
 | []=>none
 | v::r=>if x∈v.2.1 then du v.2.1 x 1 else G4 x r
theorem J9{l:List ah}(h:Rw l){v:ah}{x:ab}(hv:v∈l)(hx:x∈v.2.1):∀r,(∀u∈r,u∈l)→v∈r→G4 x r=du v.2.1 x 1
 | [],_,k=>by cases k
 | u::r,hs,k=>by
  rw [G4]
  by_cases hu:x∈u.2.1
  ·rw [if_pos hu,h.one hv (hs u List.mem_cons_self) hx hu]
  ·rw [if_neg hu]
   rcases List.mem_cons.1 k with e | k
   ·rw [e] at hx;exact absurd hx hu
   ·exact J9 h hv hx r (fun w hw=>hs w (List.mem_cons_of_mem _ hw)) k
theorem C3{x:ab}:∀{l:List ah},x∉aw l→G4 x l=none
 | [],_=>rfl
 | v::r,h=>by
  rw [jz,List.mem_append] at h
  rw [G4,if_neg (fun k=>h (.inl k))]
  exact C3 fun k=>h (.inr k)
theorem IY{d:ai}(h:Rw d.1)(x:ab):G4 x d.1=ni d x:=by
 by_cases hx:x∈aw d.1
 ·obtain ⟨v,hv,ki⟩:=bD.1 hx
  rw [AU h hv ki]
  exact J9 h hv ki d.1 (fun _ k=>k) hv
 ·rw [C3 hx]
  unfold ni cp
  rw [GB hx]
theorem Zg(hG:HG G)(d:ai)(x:ab)(hs:Sm d)(h:Rw d.1):FX G 179 wQ ((d,x,()),())=some (Gk (ni d x),()):=by
 have hv:=hs.v
 rw [←IY h x]
 refine ar (fn:=Tryz.f179) (hG _ _ rfl) (by kernel_rfl) (by kernel_rfl) ((XX _ _ _).trans ?_)
 have loop:∀(n i:Nat),i+n=d.1.length→LX G 179 wQ Tryz.f179 ug (aP Tryz.prog 179 0) ((d.1,(((d.1.length:Nat):Int),((i:Int),()))),(((x,()),((zD,()),())),()))=some (Gk (G4 x (d.1.drop i)),()):=by
  intro n
  induction n with
  | zero =>
   intro i hi
   refine au (j:=0) (by kernel_rfl) ((JN _ _ _).trans ?_)
   refine ag (decide_eq_false (show ¬((i:Int)<((d.1.length:Nat):Int)) by omega)) ?_
   rw [List.drop_eq_nil_of_le (by omega)];rfl
  | succ n ih =>
   intro i hi
   have aH:i<d.1.length:=by omega
   refine au (j:=0) (by kernel_rfl) ((JN _ _ _).trans ?_)
   refine ae (aX aH) (aa (aK (List.getElem?_eq_getElem aH)) ?_)
   refine aa (Ze hG d.1[i].2.1 x (by have:=hs.r _ (List.getElem_mem aH);omega)) ?_
   rw [List.drop_eq_getElem_cons aH,G4]
   by_cases he:x∈d.1[i].2.1
   ·rw [if_pos he]
    unfold du
    rw [if_pos he]
    obtain ⟨k,h1,h2,h3⟩:=eT he
    have hl:=(List.getElem?_eq_some_iff.1 h2).1
    have hm:((idx x d.1[i].2.1 0).toNat+1) % d.1[i].2.1.length<d.1[i].2.1.length:=Nat.mod_lt _ (by omega)
    rw [List.getElem?_eq_getElem hm]
    exact ae rfl rfl
   ·rw [if_neg he]
    unfold du
    rw [if_neg he]
    refine ag rfl ?_
    have:=ih (i+1) (by omega)
    rw [←aI aH (by omega)] at this
    exact this
 have:=loop d.1.length 0 (by omega)
 rw [List.drop_zero] at this
 exact this
theorem at_mem{d:ai}{x:ab}(h:(cp d x).isSome=true):x∈aw d.1:=by
 apply Classical.byContradiction
 intro k
 unfold cp at h
 rw [GB k] at h
 cases h
theorem Zh(hG:HG G)(d:ai)(x:ab)(h:Wf d):FX G 176 CB ((d,x,()),())=some (Gk (Gq d x),()):=by
 have hs:=h.sm
 refine ar (fn:=Tryz.f176) (hG _ _ rfl) (by kernel_rfl) (by kernel_rfl) ((XV _ _ _).trans ?_)
 refine aa (Tj hG d x hs) ?_
 have h1:(oP zI (cp d x)).2.1=(cp d x).isSome:=gP _ _
 unfold Gq
 cases ha:(cp d x).isSome
 ·rw [if_neg (by simp)]
  exact aY (h1.trans ha) rfl
 ·rw [if_pos rfl]
  refine aY (h1.trans ha) ?_
  refine aa (GJ (hG _ _ rfl) x (h.side (at_mem ha))) ?_
  exact aa (Zg hG d (aq x) hs h.rw) rfl
theorem Zi(hG:HG G)(d:ai)(hs:Sm d):FX G 171 tV ((d,()),())=some ((dV d.2,()),()):=by
 have he:=hs.e
 refine ar (fn:=Tryz.f171) (hG _ _ rfl) (by kernel_rfl) (by kernel_rfl) ((XU _ _ _).trans ?_)
 have loop:∀(n i:Nat) (out:List ab),i+n=d.2.length→out.length=2 * i→LX G 171 tV Tryz.f171 ud (aP Tryz.prog 171 0) ((d.2,(((d.2.length:Nat):Int),((i:Int),()))),((),(out,())))=some ((out++dV (d.2.drop i),()),()):=by
  intro n
  induction n with
  | zero =>
   intro i out hi ho
   refine au (j:=0) (by kernel_rfl) ((JH _ _ _).trans ?_)
   refine ag (decide_eq_false (show ¬((i:Int)<((d.2.length:Nat):Int)) by omega)) ?_
   rw [List.drop_eq_nil_of_le (by omega)]
   show some ((out,()),())=some ((out++[],()),())
   rw [List.append_nil]
  | succ n ih =>
   intro i out hi ho
   have aH:i<d.2.length:=by omega
   refine au (j:=0) (by kernel_rfl) ((JH _ _ _).trans ?_)
   refine ae (aX aH) (aa (aK (List.getElem?_eq_getElem aH)) ?_)
   refine aa (GJ (hG _ _ rfl) (d.2[i].1,0) (.inl rfl)) ?_
   refine ae (fits (by show out.length+2≤_;omega)) ?_
   have:=ih (i+1) (out++[(d.2[i].1,0),(d.2[i].1,1)]) (by omega) (by simp [ho];omega)
   rw [List.drop_eq_getElem_cons aH]
   rw [←aI aH (by omega),List.append_assoc] at this
   exact this
 exact loop d.2.length 0 [] (by omega) rfl
theorem PJ(hG:HG G)(l:List ah)(hl:l.length≤50000000):FX G 166164 jZ ((l,()),())=some ((((al l:Nat):Int),()),()):=by
 refine ar (fn:=Tryz.f164) (hG _ _ rfl) (by kernel_rfl) (by kernel_rfl) ((Oz _ _ _).trans ?_)
 have loop:∀(n i m:Nat),i+n=l.length→m≤i→LX G 166164 jZ Tryz.f164 jw (aP Tryz.prog 164 0) (((m:Int),(l,(((l.length:Nat):Int),((i:Int),())))),((),()))=some ((((m+al (l.drop i):Nat):Int),()),()):=by
  intro n
  induction n with
  | zero =>
   intro i m hi hm
   refine au (j:=0) (by kernel_rfl) ((Ar _ _ _).trans ?_)
   refine ag (decide_eq_false (show ¬((i:Int)<((l.length:Nat):Int)) by omega)) ?_
   rw [List.drop_eq_nil_of_le (by omega)];rfl
  | succ n ih =>
   intro i m hi hm
   have aH:i<l.length:=by omega
   have aeG:FX G 165 FY ((l[i],()),())=some ((l[i].2.1.isEmpty,()),()):=by
    refine ar (fn:=Tryz.f165) (hG _ _ rfl) (by kernel_rfl) (by kernel_rfl) ((XT _ _ _).trans ?_)
    have:(((l[i].2.1.length:Nat):Int)==0)=l[i].2.1.isEmpty:=by cases l[i].2.1<;>simp;omega
    exact congrArg (fun b:Bool=>some ((b,()),())) this
   refine au (j:=0) (by kernel_rfl) ((Ar _ _ _).trans ?_)
   refine ae (aX aH) (aa (aK (List.getElem?_eq_getElem aH)) ?_)
   refine aa aeG ?_
   rw [List.drop_eq_getElem_cons aH]
   unfold al
   rw [List.countP_cons]
   cases hb:l[i].2.1.isEmpty
   ·refine ag rfl ?_
    have:=ih (i+1) m (by omega) (by omega)
    rw [←aI aH (by omega)] at this
    exact this
   ·refine ae rfl ?_
    have:=ih (i+1) (m+1) (by omega) (by omega)
    rw [←aI aH (by omega),←aI (i:=m) (n:=l.length) (by omega) (by omega)] at this
    refine this.trans ?_
    refine congrArg (fun q:Nat=>some ((((q:Nat):Int),()),())) ?_
    unfold al
    simp;omega
 have:=loop l.length 0 0 (by omega) (by omega)
 rw [List.drop_zero,Nat.zero_add] at this
 exact this
end Go.Vs
namespace Go.Vs
open Go.Proofs
variable {G:(f:FuncId)→(g:aJ)→Option (g.A→Option g.B)}
def Fo(g:List Nat):Prop:=∀(i x:Nat),g[i]? = some x→x≤i
def root(g:List Nat)(i:Nat):Nat :=
 match g[i]? with
 | some x=>if h:x<i then root g x else i
 | none=>i
termination_by i
theorem dn{g:List Nat}{i x:Nat}(h:g[i]? = some x):root g i=if x<i then root g x else i:=by
 rw [root,h];simp
theorem kN{g:List Nat}{i:Nat}(h:g[i]? = none):root g i=i:=by rw [root,h]
theorem Ka(g:List Nat):∀i,root g i≤i:=by
 intro i
 induction i using Nat.strongRecOn with
 | _ i ih =>
  cases h:g[i]? with
  | none=>rw [kN h];exact Nat.le_refl _
  | some x =>
   rw [dn h]
   split
   ·rename_i hx;have:=ih x hx;omega
   ·exact Nat.le_refl _
theorem G5{g:List Nat}(hf:Fo g):∀i,i<g.length→g[root g i]? = some (root g i):=by
 intro i
 induction i using Nat.strongRecOn with
 | _ i ih =>
  intro hi
  have h:=List.getElem?_eq_getElem hi
  rw [dn h]
  split
  ·rename_i hx;exact ih _ hx (by omega)
  ·have:=hf i _ h
   rw [h];congr 1;omega
theorem kO{g:List Nat}{i:Nat}(h:g[i]? = some i):root g i=i:=by rw [dn h,if_neg (by omega)]
theorem Fo.set{g:List Nat}(hf:Fo g){i y:Nat}(h:y≤i):Fo (g.set i y):=fun j x hj=>by
 rw [List.getElem?_set] at hj
 split at hj
 ·rename_i e;subst e
  split at hj
  ·cases hj;exact h
  ·cases hj
 ·exact hf j x hj
theorem IZ{g:List Nat}(hf:Fo g){i x y:Nat}(hi:g[i]? = some x)(hx:g[x]? = some y)(aH:x<i):∀j,root (g.set i y) j=root g j:=by
 have hyx:=hf x y hx
 have nF:=(List.getElem?_eq_some_iff.1 hi).1
 intro j
 induction j using Nat.strongRecOn with
 | _ j ih =>
  by_cases e:j=i
  ·subst e
   have h1:(g.set j y)[j]? = some y:=by rw [List.getElem?_set];simp [nF]
   rw [dn h1,if_pos (by omega),ih y (by omega),dn hi,if_pos aH,dn hx]
   split
   ·rfl
   ·have:y=x:=by omega
    subst this;exact kO hx
  ·have h1:(g.set i y)[j]? = g[j]? := by rw [List.getElem?_set,if_neg (fun k=>e k.symm)]
   cases h:g[j]? with
   | none=>rw [kN h,kN (h1.trans h)]
   | some z =>
    rw [dn h,dn (h1.trans h)]
    split
    ·rename_i hz;exact ih z hz
    ·rfl
theorem L5{g:List Nat}{a b:Nat}(ha:g[a]? = some a)(hb:g[b]? = some b):∀j,root (g.set (max a b) (min a b)) j=if root g j=max a b then min a b else root g j:=by
 have hm:g[max a b]? = some (max a b):=by rcases Nat.le_total a b with h | h<;>simp [Nat.max_eq_right,Nat.max_eq_left,h,ha,hb]
 have hn:g[min a b]? = some (min a b):=by rcases Nat.le_total a b with h | h<;>simp [Nat.min_eq_right,Nat.min_eq_left,h,ha,hb]
 have hml:=(List.getElem?_eq_some_iff.1 hm).1
 have hle:min a b≤max a b:=by omega
 generalize max a b=M at *
 generalize min a b=m at *
 have aH:∀j,(g.set M m)[j]? = if j=M then some m else g[j]? := fun j=>by
  rw [List.getElem?_set]
  by_cases e:M=j
  ·subst e;simp [hml]
  ·rw [if_neg e,if_neg (fun k=>e k.symm)]
 intro j
 induction j using Nat.strongRecOn with
 | _ j ih =>
  by_cases ej:j=M
  ·subst ej
   have h1:(g.set j m)[j]? = some m:=by rw [aH,if_pos rfl]
   rw [dn h1,kO hm,if_pos rfl]
   by_cases e:m<j
   ·rw [if_pos e,ih m e,kO hn,if_neg (by omega)]
   ·rw [if_neg e];omega
  ·have h1:(g.set M m)[j]? = g[j]? := by rw [aH,if_neg ej]
   cases h:g[j]? with
   | none=>rw [kN h,kN (h1.trans h),if_neg ej]
   | some z =>
    rw [dn h,dn (h1.trans h)]
    by_cases hz:z<j
    ·rw [if_pos hz,if_pos hz];exact ih z hz
    ·rw [if_neg hz,if_neg hz,if_neg ej]
def fI(g:List Nat):List Int:=g.map fun n=>((n:Nat):Int)
theorem A5(g:List Nat):(fI g).length=g.length:=by simp [fI]
theorem s6{g:List Nat}{i x:Nat}(h:g[i]? = some x):(fI g)[Int.toNat (i:Int)]? = some (x:Int):=by simp [fI,h]
theorem PL(g:List Nat)(i x:Nat):(fI g).set (Int.toNat (i:Int)) (x:Int)=fI (g.set i x):=by simp [fI,List.map_set]
theorem A6{g:List Nat}{i:Nat}(h:i<g.length):(decide ((0:Int)≤(i:Int))&&decide ((i:Int)<(((fI g).length:Nat):Int)))=true:=by
 rw [A5];exact dv (eC i) (aX h)
structure C4(g g':List Nat):Prop where
 f:Fo g'
 n:g'.length=g.length
 r:∀j,root g' j=root g j
theorem C4.trans{a b c:List Nat}(h:C4 a b)(k:C4 b c):C4 a c:=⟨k.f,k.n.trans h.n,fun j=>(k.r j).trans (h.r j)⟩
theorem PM(hG:HG G)(g:List Nat)(i:Nat)(hf:Fo g)(hi:i<g.length):∃g',C4 g g'∧FX G 181 pY (((i:Int),()),(fI g,()))=some ((((root g i:Nat):Int),()),(fI g',())):=by
 have loop:∀(i:Nat) (g:List Nat),Fo g→i<g.length→∃g',C4 g g'∧LX G 181 pY Tryz.f181 qO (aP Tryz.prog 181 0) (((i:Int),()),((),(fI g,())))=some ((((root g i:Nat):Int),()),(fI g',())):=by
  intro i
  induction i using Nat.strongRecOn with
  | _ i ih =>
   intro g hf hi
   have h:=List.getElem?_eq_getElem hi
   generalize g[i]=x at h
   have hxi:=hf i x h
   by_cases hx:x<i
   ·have h2:=List.getElem?_eq_getElem (show x<g.length by omega)
    generalize g[x]=y at h2
    have hyx:=hf x y h2
    have hs:=IZ hf h h2 hx
    have hf2:Fo (g.set i y):=hf.set (by omega)
    obtain ⟨g',h3,h4⟩:=ih y (by omega) (g.set i y) hf2 (by rw [List.length_set];omega)
    refine ⟨g',⟨h3.f,by rw [h3.n,List.length_set],fun j=>(h3.r j).trans (hs j)⟩,?_⟩
    refine au (j:=0) (by kernel_rfl) ((JO _ _ _).trans ?_)
    refine ae (A6 hi) (aa (s6 h) ?_)
    refine ae (show (((x:Nat):Int) != (i:Int))=true by rw [bne_iff_ne];omega) ?_
    refine ae (A6 hi) (aa (s6 h) ?_)
    refine ae (A6 (show x<g.length by omega)) (aa (s6 h2) ?_)
    refine ae (A6 hi) (aa (s6 h) ?_)
    have aeH:=PL g i y
    have key:∀f:List Int,f=fI (g.set i y)→cond ((decide ((0:Int)≤(i:Int)))&&(decide ((i:Int)<(((List.length f):Nat):Int)))) (((f)[(Int.toNat (i:Int))]?).bind fun (y5:Int)=>LX G 181 pY Tryz.f181 qO (aP Tryz.prog 181 0) ((y5,()),((),(f,())))) none=some ((((root g i:Nat):Int),()),(fI g',())):=fun f hf=>by
     subst hf
     refine ae (A6 (by rw [List.length_set];exact hi)) (aa (s6 (x:=y) (by rw [List.getElem?_set];simp [hi])) ?_)
     rw [h4,hs y,dn h,if_pos hx,dn h2]
     by_cases hy:y<x
     ·rw [if_pos hy]
     ·have:y=x:=by omega
      subst this;rw [if_neg (by omega),kO h2]
    exact key _ aeH
   ·have:x=i:=by omega
    subst this
    refine ⟨g,⟨hf,rfl,fun _=>rfl⟩,?_⟩
    refine au (j:=0) (by kernel_rfl) ((JO _ _ _).trans ?_)
    refine ae (A6 hi) (aa (s6 h) ?_)
    rw [kO h]
    exact ag (by simp) rfl
 obtain ⟨g',h1,h2⟩:=loop i g hf hi
 exact ⟨g',h1,ar (fn:=Tryz.f181) (hG _ _ rfl) (by kernel_rfl) (by kernel_rfl) ((XZ _ _ _).trans h2)⟩
def A7(a b r:Nat):Nat:=if r=max a b then min a b else r
theorem Zj(hG:HG G)(g:List Nat)(i k:Nat)(hf:Fo g)(hi:i<g.length)(hk:k<g.length):∃g',Fo g'∧g'.length=g.length∧(∀j,root g' j=A7 (root g i) (root g k) (root g j))∧FX G 180 FZ (((i:Int),((k:Int),())),(fI g,()))=some ((),(fI g',())):=by
 obtain ⟨g1,h1,e1⟩:=PM hG g i hf hi
 obtain ⟨g2,h2,e2⟩:=PM hG g1 k h1.f (by rw [h1.n];exact hk)
 rw [h1.r k] at e2
 have hs:=h1.trans h2
 have ra:g2[root g i]? = some (root g i):=by
  have:=G5 hs.f i (by rw [hs.n];exact hi)
  rw [hs.r i] at this;exact this
 have rb:g2[root g k]? = some (root g k):=by
  have:=G5 hs.f k (by rw [hs.n];exact hk)
  rw [hs.r k] at this;exact this
 have hal:=(List.getElem?_eq_some_iff.1 ra).1
 have hbl:=(List.getElem?_eq_some_iff.1 rb).1
 have hm:max (root g i) (root g k)<g2.length:=by omega
 refine ⟨g2.set (max (root g i) (root g k)) (min (root g i) (root g k)),hs.f.set (by omega),by rw [List.length_set,hs.n],fun j=>by rw [L5 ra rb j,hs.r j];rfl,?_⟩
 refine ar (fn:=Tryz.f180) (hG _ _ rfl) (by kernel_rfl) (by kernel_rfl) ((XY _ _ _).trans ?_)
 refine aa e1 (aa e2 ?_)
 have em:(max ((root g i:Nat):Int) ((root g k:Nat):Int):Int)=((max (root g i) (root g k):Nat):Int):=by omega
 have en:(min ((root g i:Nat):Int) ((root g k:Nat):Int):Int)=((min (root g i) (root g k):Nat):Int):=by omega
 have key:∀m n:Int,m=((max (root g i) (root g k):Nat):Int)→n=((min (root g i) (root g k):Nat):Int)→cond ((decide ((0:Int)≤m))&&(decide (m<(((List.length (fI g2)):Nat):Int)))) (((fI g2)[(Int.toNat m)]?).bind fun (y3:Int)=>(some ((),((List.set (fI g2) (Int.toNat m) n),())):Option (Unit×((List Int)×Unit)))) none=some ((),(fI (g2.set (max (root g i) (root g k)) (min (root g i) (root g k))),())):=fun m n QL HH=>by
  subst QL HH
  refine ae (A6 hm) (aa (s6 (List.getElem?_eq_getElem hm)) ?_)
  rw [PL]
 exact key _ _ em en
end Go.Vs
namespace Go.Vs
open Go.Proofs
variable {G:(f:FuncId)→(g:aJ)→Option (g.A→Option g.B)}
theorem I0{α:Type}(x:ab)(es:List (ab×α)):r9 bm x es=es.findIdx? fun e=>decide (e.1=x):=by
 show List.findIdx? (fun e:ab×α=>((x.1.1==e.1.1.1)&&(x.1.2==e.1.1.2))&&(x.2==e.1.2)) es=_
 congr 1
 funext e
 rw [kh x e.1]
 by_cases h:x=e.1
 ·rw [decide_eq_true h,decide_eq_true h.symm]
 ·rw [decide_eq_false h,decide_eq_false (fun k=>h k.symm)]
def eX{β α:Type}[DecidableEq β](x:β):List (β×α)→Option α
 | []=>none
 | e::r=>if e.1=x then some e.2 else eX x r
theorem I2{β α:Type}[DecidableEq β](x:β):∀es:List (β×α),((es.findIdx? fun e=>decide (e.1=x)).bind fun i=>(es[i]?).map (·.2))=eX x es
 | []=>rfl
 | e::r=>by
  have ih:=I2 x r
  rw [List.findIdx?_cons,eX]
  by_cases h:e.1=x
  ·rw [if_pos (decide_eq_true h),if_pos h];rfl
  ·rw [if_neg (by simpa using h),if_neg h,←ih]
   cases r.findIdx? fun e=>decide (e.1=x)<;>simp
theorem PN{α:Type}(x:ab)(es:List (ab×α)):iD bm x es=eX x es:=by
 have:=I2 x es
 rw [←I0] at this
 exact this
theorem PO{α:Type}{x:ab}(v:α){es:List (ab×α)}(h:x∉es.map (·.1)):lJ bm x v es=es++[(x,v)]:=by
 have e:r9 bm x es=none:=by
  rw [I0,List.findIdx?_eq_none_iff]
  intro q hq
  exact decide_eq_false fun k=>h (List.mem_map.2 ⟨q,hq,k⟩)
 unfold lJ
 split
 ·rename_i i k;rw [e] at k;cases k
 ·rfl
theorem G6{β α:Type}[DecidableEq β]{x:β}{v:α}:∀{es:List (β×α)},(es.map (·.1)).Nodup→(x,v)∈es→eX x es=some v
 | [],_,h=>by cases h
 | e::r,hn,h=>by
  simp only [List.map_cons,List.nodup_cons] at hn
  rw [eX]
  rcases List.mem_cons.1 h with e1 | h
  ·subst e1;rw [if_pos rfl]
  ·rw [if_neg (fun k=>hn.1 (by rw [k];exact List.mem_map.2 ⟨_,h,rfl⟩))]
   exact G6 hn.2 h
def gK:List ah→Nat→List (ab×Int)
 | [],_=>[]
 | v::r,i=>v.2.1.map (fun x=>(x,(i:Int)))++gK r (i+1)
theorem vU:∀(l:List ah) (i:Nat),(gK l i).map (·.1)=aw l
 | [],_=>rfl
 | v::r,i=>by
  have e:(v.2.1.map fun x=>(x,(i:Int))).map (·.1)=v.2.1:=by rw [List.map_map];exact List.map_id _
  rw [gK,jz,List.map_append,vU r,e]
theorem G7:∀(a b:List ah) (i:Nat),gK (a++b) i=gK a i++gK b (i+a.length)
 | [],b,i=>rfl
 | v::r,b,i=>by
  rw [List.cons_append,gK,gK,G7 r b,List.append_assoc]
  congr 3
  simp;omega
theorem G8{x:ab}{a:Int}:∀{l:List ah} {i:Nat},(x,a)∈gK l i→∃k v,l[k]? = some v∧a=((i+k:Nat):Int)∧x∈v.2.1
 | [],i,h=>by cases h
 | v::r,i,h=>by
  rw [gK] at h
  rcases List.mem_append.1 h with h | h
  ·obtain ⟨y,hy,e⟩:=List.mem_map.1 h
   cases e
   exact ⟨0,v,rfl,rfl,hy⟩
  ·obtain ⟨k,u,h1,h2,h3⟩:=G8 h
   exact ⟨k+1,u,by simpa using h1,by rw [h2];congr 1;omega,h3⟩
theorem Kb{x:ab}:∀{l:List ah} {i k:Nat} {v:ah},l[k]? = some v→x∈v.2.1→(x,((i+k:Nat):Int))∈gK l i
 | v::r,i,0,u,h,hx=>by
  simp at h;subst h
  rw [gK];exact List.mem_append_left _ (List.mem_map.2 ⟨x,hx,rfl⟩)
 | v::r,i,k+1,u,h,hx=>by
  rw [gK]
  refine List.mem_append_right _ ?_
  have:=Kb (i:=i+1) (k:=k) (by simpa using h) hx
  rwa [show i+1+k=i+(k+1) by omega] at this
theorem PQ(i:Nat):fI (List.range i)++[(i:Int)]=fI (List.range (i+1)):=by rw [List.range_succ];simp [fI]
section
variable {d:ai} {y:gF.B}
theorem RN(h:Wf d){i:Nat}(hi:i<d.1.length){f:List Int}{nn:Int}
  (next:LX G 177 gF Tryz.f177 qN (aP Tryz.prog 177 0) ((d.1,(nn,((IntKind.wrap .i64 ((i:Int)+1)),()))),((),(f,(gK (d.1.take (i+1)) 0,()))))=some y):∀(n j:Nat) (es:List (ab×Int)),j+n=d.1[i].2.1.length→es=gK (d.1.take i) 0++(d.1[i].2.1.take j).map (fun x=>(x,(i:Int))) →
  LX G 177 gF Tryz.f177 ue (aP Tryz.prog 177 1) (((i:Int),(d.1,(nn,((i:Int),(d.1[i].2.1,(((d.1[i].2.1.length:Nat):Int),((j:Int),()))))))),((),(f,(es,()))))=some y:=by
 have hr:=h.vQ d.1[i] (List.getElem_mem hi)
 have et:d.1.take (i+1)=d.1.take i++[d.1[i]]:=(List.take_append_getElem hi).symm
 have ev:gK (d.1.take (i+1)) 0=gK (d.1.take i) 0++d.1[i].2.1.map (fun x=>(x,(i:Int))):=by
  rw [et,G7]
  have:(d.1.take i).length=i:=by rw [List.length_take];omega
  rw [this,Nat.zero_add]
  congr 1
  show d.1[i].2.1.map (fun x=>(x,(i:Int)))++[]=_
  rw [List.append_nil]
 have nd:(aw (d.1.take i)++d.1[i].2.1).Nodup:=by
  have h1:=h.rw.n
  rw [←List.take_append_drop (i+1) d.1,et,nr,nr] at h1
  have e2:aw [d.1[i]]=d.1[i].2.1:=by rw [jz];exact List.append_nil _
  rw [e2] at h1
  exact (List.nodup_append.1 h1).1
 intro n
 induction n with
 | zero =>
  intro j es hj he
  refine au (j:=1) (by kernel_rfl) ((JJ _ _ _).trans ?_)
  refine ag (decide_eq_false (show ¬((j:Int)<((d.1[i].2.1.length:Nat):Int)) by omega)) ?_
  have e:d.1[i].2.1.take j=d.1[i].2.1:=List.take_of_length_le (by omega)
  rw [e,←ev] at he
  subst he
  exact next
 | succ n ih =>
  intro j es hj he
  have aH:j<d.1[i].2.1.length:=by omega
  refine au (j:=1) (by kernel_rfl) ((JJ _ _ _).trans ?_)
  refine ae (aX aH) (aa (aK (List.getElem?_eq_getElem aH)) ?_)
  have Bv:d.1[i].2.1[j]∉es.map (·.1):=by
   have e3:((d.1[i].2.1.take j).map fun x=>(x,(i:Int))).map (·.1)=d.1[i].2.1.take j:=by rw [List.map_map];exact List.map_id _
   rw [he,List.map_append,vU,e3,List.mem_append]
   rintro (k | k)
   ·exact (List.nodup_append.1 nd).2.2 _ k _ (List.getElem_mem aH) rfl
   ·obtain ⟨q,hq,he⟩:=List.getElem_of_mem k
    have hq1:q<j:=by rw [List.length_take] at hq;omega
    rw [List.getElem_take] at he
    have:=(List.getElem_inj (List.nodup_append.1 nd).2.1).1 he
    omega
  have:=ih (j+1) (lJ bm d.1[i].2.1[j] (i:Int) es) (by omega) (by
   rw [PO _ Bv,he,←List.take_append_getElem aH,List.map_append,List.append_assoc];rfl)
  rw [←aI aH (by omega)] at this
  exact this
theorem RO(h:Wf d)
  (next:LX G 177 gF Tryz.f177 oo (aP Tryz.prog 177 2) ((gK d.1 0,()),((),(fI (List.range d.1.length),((none,gK d.1 0),()))))=some y):∀(n i:Nat),i+n=d.1.length →
  LX G 177 gF Tryz.f177 qN (aP Tryz.prog 177 0) ((d.1,(((d.1.length:Nat):Int),((i:Int),()))),((),(fI (List.range i),(gK (d.1.take i) 0,()))))=some y:=by
 have hn:=h.nv
 intro n
 induction n with
 | zero =>
  intro i hi
  have e:i=d.1.length:=by omega
  subst e
  refine au (j:=0) (by kernel_rfl) ((JI _ _ _).trans ?_)
  refine ag (decide_eq_false (show ¬(((d.1.length:Nat):Int)<((d.1.length:Nat):Int)) by omega)) ?_
  rw [List.take_length]
  exact next
 | succ n ih =>
  intro i hi
  have aH:i<d.1.length:=by omega
  refine au (j:=0) (by kernel_rfl) ((JI _ _ _).trans ?_)
  refine ae (aX aH) (aa (aK (List.getElem?_eq_getElem aH)) ?_)
  refine ae (fits (by show (fI (List.range i)).length+1≤_;rw [A5];simp;omega)) ?_
  have nx:=ih (i+1) (by omega)
  rw [←aI aH (by omega),←PQ] at nx
  exact RN (G:=G) h aH nx d.1[i].2.1.length 0 _ (by omega) (by simp)
end
end Go.Vs
namespace Go.Vs
open Go.Proofs
variable {G:(f:FuncId)→(g:aJ)→Option (g.A→Option g.B)}
theorem A8(a b:Nat):A7 a b a=min a b∧A7 a b b=min a b:=by
 unfold A7
 constructor<;>split<;>omega
structure Zk(d:ai)(rem:List (ab×Int))(g:List Nat):Prop where
 f:Fo g
 n:g.length=d.1.length
 c:∀i,i<d.1.length→cU d (cy d i) (cy d (root g i))
 p:∀(z:ab) (i k:Nat),(z,(i:Int))∈gK d.1 0→(aq z,(k:Int))∈gK d.1 0→(z,(i:Int))∉rem→root g i=root g k
theorem uE{d:ai}(h:Wf d){z:ab}{a:Int}(hm:(z,a)∈gK d.1 0):∃i:Nat,i<d.1.length∧a=(i:Int)∧z∈aw d.1∧cp d z=some (cy d i):=by
 obtain ⟨k,v,h1,h2,h3⟩:=G8 hm
 rw [Nat.zero_add] at h2
 have hv:=List.mem_of_getElem? h1
 refine ⟨k,(List.getElem?_eq_some_iff.1 h1).1,h2,bD.2 ⟨v,hv,h3⟩,?_⟩
 rw [mf h1]
 exact mE h.rw hv h3
theorem I3{d:ai}(h:Wf d){z:ab}(hz:z∈aw d.1):∃i:Nat,(z,(i:Int))∈gK d.1 0:=by
 obtain ⟨v,hv,hx⟩:=bD.1 hz
 obtain ⟨k,hk⟩:=List.getElem?_of_mem hv
 have:=Kb (i:=0) hk hx
 rw [Nat.zero_add] at this
 exact ⟨k,this⟩
theorem Kc{d:ai}(h:Wf d){z:ab}{a:Int}(hm:(z,a)∈gK d.1 0):iD bm z (gK d.1 0)=some a:=by
 rw [PN]
 refine G6 ?_ hm
 rw [vU];exact h.rw.n
theorem Zk.same{d:ai}(h:Wf d){g:List Nat}(hg:Zk d [] g){a b:ID}(k:cU d a b):∀i j,i<d.1.length→j<d.1.length→cy d i=a→cy d j=b→root g i=root g j:=by
 induction k with
 | refl=>intro i j hi hj h1 h2;rw [iV h.sv hi hj (h1.trans h2.symm)]
 | tail _ s ih =>
  intro i j hi hj h1 h2
  obtain ⟨z,hz,s1,s2⟩:=s
  obtain ⟨m,hm⟩:=I3 h hz
  obtain ⟨q,hq⟩:=I3 h (h.other hz)
  obtain ⟨m',m1,m2,_,m3⟩:=uE h hm
  obtain ⟨q',q1,q2,_,q3⟩:=uE h hq
  have em:m'=m:=by omega
  have eq:q'=q:=by omega
  subst em;subst eq
  rw [s1] at m3;rw [s2] at q3
  have r1:=ih i m' hi m1 h1 (Option.some.inj m3).symm
  have r2:=hg.p z m' q' hm hq (by simp)
  have ej:q'=j:=iV h.sv q1 hj ((Option.some.inj q3).symm.trans h2.symm)
  rw [r1,r2,ej]
theorem Zk.can{d:ai}(h:Wf d){g:List Nat}(hg:Zk d [] g):GZ d (fI ((List.range d.1.length).map (root g))):=by
 have mr:∀i,i<d.1.length→(fI ((List.range d.1.length).map (root g))).getD i 0=((root g i:Nat):Int):=fun i hi=>by
  unfold fI;simp [List.getD,hi]
 refine ⟨⟨by rw [A5];simp,fun i hi=>⟨root g i,Ka g i,mr i hi,hg.c i hi⟩⟩,fun i hi j hj k => ?_⟩
 rw [mr i hi,hg.same h k i j hi hj rfl rfl]
 have:=Ka g j
 omega
theorem RP(hG:HG G){d:ai}(h:Wf d){g:List Nat}:∀(n i:Nat) (g':List Nat),i+n=d.1.length→Fo g'→g'.length=d.1.length→(∀j,root g' j=root g j) →
  LX G 177 gF Tryz.f177 uf (aP Tryz.prog 177 3) ((((d.1.length:Nat):Int),((i:Int),())),((),(fI g',(fI ((List.range i).map (root g)),()))))=some ((fI ((List.range d.1.length).map (root g)),()),()):=by
 have QB:=h.nv
 intro n
 induction n with
 | zero =>
  intro i g' hi h1 h2 h3
  have e:i=d.1.length:=by omega
  subst e
  refine au (j:=3) (by kernel_rfl) ((JM _ _ _).trans ?_)
  exact ag (decide_eq_false (show ¬(((d.1.length:Nat):Int)<((d.1.length:Nat):Int)) by omega)) rfl
 | succ n ih =>
  intro i g' hi h1 h2 h3
  have aH:i<d.1.length:=by omega
  obtain ⟨g2,s,e⟩:=PM hG g' i h1 (by omega)
  refine au (j:=3) (by kernel_rfl) ((JM _ _ _).trans ?_)
  refine ae (aX aH) (aa e ?_)
  refine ae (fits (by show (fI _).length+1≤_;rw [A5];simp;omega)) ?_
  have:=ih (i+1) g2 (by omega) s.f (by rw [s.n,h2]) (fun j=>(s.r j).trans (h3 j))
  have e2:fI ((List.range (i+1)).map (root g))=fI ((List.range i).map (root g))++[((root g' i:Nat):Int)]:=by
   rw [List.range_succ,h3 i];simp [fI]
  rw [e2,←aI aH (by omega)] at this
  exact this
theorem RQ(hG:HG G){d:ai}(h:Wf d):∀(n:Nat) (rem:List (ab×Int)) (g:List Nat) (o:Option (ab×Int)),rem.length=n→(∀e∈rem,e∈gK d.1 0)→Zk d rem g →
  LX G 177 gF Tryz.f177 oo (aP Tryz.prog 177 2) ((gK d.1 0,()),((),(fI g,((o,rem),()))))=some ((labels d,()),()):=by
 intro n
 induction n with
 | zero =>
  intro rem g o hn hr hg
  have e:rem=[]:=List.eq_nil_of_length_eq_zero hn
  subst e
  refine au (j:=2) (by kernel_rfl) ((JK _ _ _).trans ?_)
  refine ae rfl ?_
  have:=RP (G:=G) hG h (g:=g) d.1.length 0 g (by omega) hg.f hg.n (fun _=>rfl)
  rw [(hg.can h).uniq h (hY h)] at this
  have e2:((fI g).length:Int)=((d.1.length:Nat):Int):=by rw [A5,hg.n]
  rw [←e2] at this
  exact this
 | succ n ih =>
  intro rem g o hn hr hg
  refine au (j:=2) (by kernel_rfl) ((JK _ _ _).trans ?_)
  refine ag (show rem.isEmpty=false by cases rem with | nil=>simp at hn | cons _ _=>rfl) ?_
  refine lY (show 0<rem.length by omega) fun j hj => ?_
  have hj':j<rem.length:=hj
  refine aa (List.getElem?_eq_getElem hj') ?_
  have hm:=hr _ (List.getElem_mem hj')
  generalize he:rem[j]=e at hm
  obtain ⟨z,a⟩:=e
  obtain ⟨i,hi,ha,hz,haz⟩:=uE h hm
  subst ha
  obtain ⟨k,hk⟩:=I3 h (h.other hz)
  obtain ⟨k',uJ,ek,_,hak⟩:=uE h hk
  have ek':k'=k:=by omega
  subst ek'
  refine aa (GJ (hG _ _ rfl) z (h.side hz)) ?_
  have mr:iD bm (aq z) (gK d.1 0)=some (k':Int):=Kc h hk
  refine ae (show (iD bm (aq z) (gK d.1 0)).isSome=true by rw [mr];rfl) ?_
  obtain ⟨g',h1,h2,h3,h4⟩:=Zj hG g i k' hg.f (by rw [hg.n];exact hi) (by rw [hg.n];exact uJ)
  refine aa (a:=((),(fI g',()))) (by
   have:(iD bm (aq z) (gK d.1 0)).getD (0:Int)=(k':Int):=by rw [mr];rfl
   rw [←this] at h4
   exact h4) ?_
  have aeJ:IN d (cy d i) (cy d k'):=⟨z,hz,haz,hak⟩
  have cij:cU d (cy d (root g i)) (cy d (root g k')):=((hg.c i hi).symm h).trans (aeJ.conn.trans (hg.c k' uJ))
  refine ih (rem.eraseIdx j) g' _ (by rw [List.length_eraseIdx,if_pos hj'];omega) (fun e he=>hr e (List.mem_of_mem_eraseIdx he)) ⟨h1,h2.trans hg.n,fun q hq => ?_,fun y p q hp hq hy => ?_⟩
  ·rw [h3 q]
   unfold A7
   split
   ·rename_i e
    refine (hg.c q hq).trans ?_
    rw [e]
    rcases Nat.le_total (root g i) (root g k') with hle | hle
    ·rw [Nat.max_eq_right hle,Nat.min_eq_left hle];exact cij.symm h
    ·rw [Nat.max_eq_left hle,Nat.min_eq_right hle];exact cij
   ·exact hg.c q hq
  ·rw [h3 p,h3 q]
   by_cases lH:(y,(p:Int))∈rem
   ·
    have e:(y,(p:Int))=(z,(i:Int)):=by
     apply Classical.byContradiction
     intro ne
     apply hy
     rw [List.mem_eraseIdx_iff_getElem]
     obtain ⟨t,ht,hte⟩:=List.getElem_of_mem lH
     refine ⟨t,ht,fun k => ?_,hte⟩
     subst k
     exact ne (hte.symm.trans he)
    have e1:y=z:=congrArg Prod.fst e
    have e2:p=i:=by have:=congrArg Prod.snd e;simp at this;omega
    subst e1;subst e2
    have h5:=Kc h hq
    rw [mr] at h5
    have e3:q=k':=by have:=Option.some.inj h5;omega
    subst e3
    rw [(A8 _ _).1,(A8 _ _).2]
   ·rw [hg.p y p q hp hq lH]
theorem I4(n:Nat):∀i,root (List.range n) i=i:=fun i=>by
 cases h:(List.range n)[i]? with
 | none=>exact kN h
 | some x =>
  have:x=i:=by rw [List.getElem?_range (by have:=(List.getElem?_eq_some_iff.1 h).1;simpa using this)] at h;exact (Option.some.inj h).symm
  subst this
  exact kO h
theorem Zl(hG:HG G)(d:ai)(h:Wf d):FX G 177 gF ((d,()),())=some ((labels d,()),()):=by
 refine ar (fn:=Tryz.f177) (hG _ _ rfl) (by kernel_rfl) (by kernel_rfl) ((XW _ _ _).trans ?_)
 refine RO (G:=G) h ?_ d.1.length 0 (by omega)
 refine RQ hG h _ (gK d.1 0) (List.range d.1.length) none rfl (fun _ k=>k) ⟨fun i x hx => ?_,by simp,fun i hi => ?_,fun z i k h1 h2 h3=>absurd h1 h3⟩
 ·have:=(List.getElem?_eq_some_iff.1 hx).1
  rw [List.getElem?_range (by simpa using this)] at hx
  have:=Option.some.inj hx;omega
 ·rw [I4];exact .refl _
end Go.Vs
namespace Go.Vs
open Go.Proofs
variable {G:(f:FuncId)→(g:aJ)→Option (g.A→Option g.B)}
structure PG(G:(f:FuncId)→(g:aJ)→Option (g.A→Option g.B)):Prop where
 h:HG G
 f:∀d,Wf d→FX G 166 wO ((d,()),())=some ((dD d,()),())
 c:∀d,Wf d→FX G 167 wP ((d,()),())=some ((fN d,()),())
theorem Zm(hp:PG G)(d:ai)(h:Wf d):FX G 153 FU ((d,()),())=some ((((d.1.length:Nat):Int),(((d.2.length:Nat):Int),(((ft d:Nat):Int),(fN d,())))),()):=by
 have hn:=h.nv
 have hf:=uD h
 have ha:al d.1≤d.1.length:=List.countP_le_length
 refine ar (fn:=Tryz.f153) (hp.h _ _ rfl) (by kernel_rfl) (by kernel_rfl) ((XP _ _ _).trans ?_)
 refine aa (PJ hp.h d.1 (by omega)) ?_
 refine aa (hp.f d h) (aa (hp.c d h) ?_)
 have e:IntKind.wrap .i64 ((((dD d).length:Nat):Int)+((al d.1:Nat):Int))=((ft d:Nat):Int):=by
  rw [wrap_small (by omega) (by omega)];rfl
 exact congrArg (fun n:Int=>some ((((d.1.length:Nat):Int),(((d.2.length:Nat):Int),(n,(fN d,())))),())) e
theorem Zn(hp:PG G)(d:ai)(h:Wf d):FX G 136 FO ((d,()),())=some ((iU d,()),()):=by
 have hn:=h.nv;have bj:=h.ne
 have hf:=uD h
 have ha:al d.1≤d.1.length:=List.countP_le_length
 refine ar (fn:=Tryz.f136) (hp.h _ _ rfl) (by kernel_rfl) (by kernel_rfl) ((XE _ _ _).trans ?_)
 refine aa (Zm hp d h) (ag rfl ?_)
 have hr:=wZ h (hY h)
 obtain ⟨k,e1,e2⟩:=PE h hr
 have ec:=vS h
 have Nt:(kj d (labels d)).length≤d.1.length:=by
  unfold kj
  rw [List.length_map]
  refine Nat.le_trans (List.length_filter_le _ _) ?_
  simp
 have WN:ft d≤80+d.1.length:=by unfold ft;omega
 refine congrArg (fun n:Int=>some ((n,()),())) ?_
 show IntKind.wrap .i64 (fN d - IntKind.wrap .i64 (Int.tdiv (IntKind.wrap .i64 ((IntKind.wrap .i64 (((d.1.length:Nat):Int) - ((d.2.length:Nat):Int)))+((ft d:Nat):Int))) 2))=iU d
 rw [e1,ec]
 have hk:(k:Int)≤1000:=by omega
 rw [wrap_small (n:=((d.1.length:Nat):Int) - ((d.2.length:Nat):Int)) (by omega) (by omega)]
 rw [wrap_small (n:=((d.1.length:Nat):Int) - ((d.2.length:Nat):Int)+((ft d:Nat):Int)) (by omega) (by omega)]
 have e3:((d.1.length:Nat):Int) - ((d.2.length:Nat):Int)+((ft d:Nat):Int)=2 * ((((kj d (labels d)).length:Nat):Int) - (k:Int)):=by omega
 rw [e3,Int.mul_tdiv_cancel_left _ (by decide)]
 rw [wrap_small (n:=(((kj d (labels d)).length:Nat):Int) - (k:Int)) (by omega) (by omega)]
 rw [wrap_small (by omega) (by omega)]
 omega
theorem RR(hp:PG G):IX G:=fun d h=>by
 refine ar (fn:=Tryz.f114) (hp.h _ _ rfl) (by kernel_rfl) (by kernel_rfl) ((Xn _ _ _).trans ?_)
 refine aa (Zn hp d h) ?_
 refine congrArg (fun b:Bool=>some ((b,()),())) ?_
 show (iU d==0)=decide (iU d=0)
 rw [Bool.eq_iff_iff];simp
end Go.Vs
