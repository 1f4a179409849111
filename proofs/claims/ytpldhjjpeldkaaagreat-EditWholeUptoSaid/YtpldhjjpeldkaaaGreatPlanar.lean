/- What the program computes of faces, parts and whether a diagram lies in the plane. -/
import Derived.Test.YtpldhjjpeldkaaaGreatSplits
import Derived.Test.YtpldhjjpeldkaaaGreatEuler
set_option linter.unusedVariables false
set_option linter.unusedSimpArgs false
namespace Go.Vs
open Go.Proofs
variable {G:(f:FuncId)→(g:aJ)→Option (g.A→Option g.B)}
theorem Ja(w:ah)(r:List ah)(x:ID):aR (w::r) x=if w.1=x then some w else aR r x:=by
 unfold aR;rw [List.find?_cons];by_cases h:w.1=x<;>simp [h]
theorem PU(hG:HG G)(l:List ah)(x:ID)(hl:l.length≤1073741824):FX G 151149 j0 ((l,x,()),())=some (oS zV (aR l x),()):=by
 refine au (fn:=Tryz.f149) (hG _ _ rfl) (by kernel_rfl) (by kernel_rfl) ((OL _ _ _).trans ?_)
 have loop:∀(n i:Nat),i+n=l.length→LX G 151149 j0 Tryz.f149 lB (aP Tryz.prog 149 0) ((l,(((l.length:Nat):Int),((i:Int),()))),(((x,()),(((0:Int),((0:Int),(([]:List ab),(e0,((0:Int),()))))),())),()))=some (oS zV (aR (l.drop i) x),()):=by
  intro n
  induction n with
  | zero =>
   intro i hi
   refine ar (j:=0) (by kernel_rfl) ((Aw _ _ _).trans ?_)
   refine ag (decide_eq_false (show ¬((i:Int)<((l.length:Nat):Int)) by omega)) ?_
   rw [List.drop_eq_nil_of_le (by omega)];rfl
  | succ n ih =>
   intro i hi
   have aG:i<l.length:=by omega
   have aeH:FX G 150 Ga ((l[i],()),())=some ((l[i].1,()),()):=au (fn:=Tryz.f150) (hG _ _ rfl) (by kernel_rfl) (by kernel_rfl) (XX _ _ _)
   refine ar (j:=0) (by kernel_rfl) ((Aw _ _ _).trans ?_)
   refine ae (aT aG) (aa (aK (List.getElem?_eq_getElem aG)) ?_)
   refine aa aeH ?_
   rw [List.drop_eq_getElem_cons aG,Ja]
   by_cases he:l[i].1=x
   ·rw [if_pos he]
    exact ae ((jc l[i].1 x).trans (decide_eq_true he)) rfl
   ·rw [if_neg he]
    refine ag ((jc l[i].1 x).trans (decide_eq_false he)) ?_
    have:=ih (i+1) (by omega)
    rw [←aI aG hl] at this
    exact this
 have:=loop l.length 0 (by omega)
 rw [List.drop_zero] at this
 exact this
theorem Zj(hG:HG G)(d:ai)(x:ID)(hs:Sm d):FX G 131 F7 ((d,x,()),())=some (oS zV (bj d x),()):=by
 have hv:=hs.v
 refine au (fn:=Tryz.f131) (hG _ _ rfl) (by kernel_rfl) (by kernel_rfl) ((XK _ _ _).trans ?_)
 refine aa (PU hG d.1 x (by omega)) ?_
 unfold bj
 cases hf:aR d.1 x with
 | none=>exact aa (UM (hG _ _ rfl) [] (by simp)) rfl
 | some v=>exact aa (UM (hG _ _ rfl) v.2.1 (hs.r v (fW hf))) rfl
theorem PV(w:ah)(r:List ah)(x:ab):GD (w::r) x=if x∈w.2.1 then some w.1 else GD r x:=by
 unfold GD;rw [List.find?_cons];by_cases h:x∈w.2.1<;>simp [h]
theorem Tu(hG:HG G)(d:ai)(x:ab)(hs:Sm d):FX G 151 tX ((d,x,()),())=some (oS zI (cr d x),()):=by
 have hv:=hs.v
 refine au (fn:=Tryz.f151) (hG _ _ rfl) (by kernel_rfl) (by kernel_rfl) ((XY _ _ _).trans ?_)
 have loop:∀(n i:Nat),i+n=d.1.length→LX G 151 tX Tryz.f151 uf (aP Tryz.prog 151 0) ((d.1,(((d.1.length:Nat):Int),((i:Int),()))),(((x,()),((zI,()),())),()))=some (oS zI (GD (d.1.drop i) x),()):=by
  intro n
  induction n with
  | zero =>
   intro i hi
   refine ar (j:=0) (by kernel_rfl) ((JX _ _ _).trans ?_)
   refine ag (decide_eq_false (show ¬((i:Int)<((d.1.length:Nat):Int)) by omega)) ?_
   rw [List.drop_eq_nil_of_le (by omega)];rfl
  | succ n ih =>
   intro i hi
   have aG:i<d.1.length:=by omega
   refine ar (j:=0) (by kernel_rfl) ((JX _ _ _).trans ?_)
   refine ae (aT aG) (aa (aK (List.getElem?_eq_getElem aG)) ?_)
   refine aa (CR hG d.1[i].2.1 x (by have:=hs.r _ (List.getElem_mem aG);omega)) ?_
   rw [List.drop_eq_getElem_cons aG,PV]
   by_cases he:x∈d.1[i].2.1
   ·rw [if_pos he]
    exact ae (decide_eq_true he) rfl
   ·rw [if_neg he]
    refine ag (decide_eq_false he) ?_
    have:=ih (i+1) (by omega)
    rw [←aI aG (by omega)] at this
    exact this
 have:=loop d.1.length 0 (by omega)
 rw [List.drop_zero] at this
 exact this
def Jb(x:ab):List ak→Int→Int
 | [],_ => -1
 | g::r,i=>if g.1=x then i else Jb x r (i+1)
theorem Hk(x:ab):∀(l:List ak) (i:Nat),(Jb x l i = -1∧fN l x=none)∨∃k g,Jb x l (i:Int)=((i+k:Nat):Int)∧l[k]? = some g∧fN l x=some g.2
 | [],i=>.inl ⟨rfl,rfl⟩
 | g::r,i=>by
  rw [Jb,oD]
  by_cases h:g.1=x
  ·rw [if_pos h,if_pos h]
   exact .inr ⟨0,g,by simp,by simp,rfl⟩
  ·rw [if_neg h,if_neg h]
   have e:(i:Int)+1=((i+1:Nat):Int):=by omega
   rw [e]
   rcases Hk x r (i+1) with ⟨h1,h2⟩ | ⟨k,q,h1,h2,h3⟩
   ·exact .inl ⟨h1,h2⟩
   ·exact .inr ⟨k+1,q,by rw [h1];congr 1;omega,by simpa using h2,h3⟩
theorem PW(hG:HG G)(l:List ak)(x:ab)(hl:l.length≤1073741824):FX G 164162 iR ((l,()),((x,()),()))=some ((Jb x l 0,()),((x,()),())):=by
 refine au (fn:=Tryz.f162) (hG _ _ rfl) (by kernel_rfl) (by kernel_rfl) ((ON _ _ _).trans ?_)
 have loop:∀(n i:Nat),i+n=l.length→LX G 164162 iR Tryz.f162 jx (aP Tryz.prog 162 0) ((l,(((l.length:Nat):Int),((i:Int),()))),(((x,()),()),()))=some ((Jb x (l.drop i) i,()),((x,()),())):=by
  intro n
  induction n with
  | zero =>
   intro i hi
   refine ar (j:=0) (by kernel_rfl) ((Ay _ _ _).trans ?_)
   refine ag (decide_eq_false (show ¬((i:Int)<((l.length:Nat):Int)) by omega)) ?_
   rw [List.drop_eq_nil_of_le (by omega)];rfl
  | succ n ih =>
   intro i hi
   have aG:i<l.length:=by omega
   have aeI:FX G 163 Gd ((l[i],()),((x.1.1,(x.1.2,(x.2,()))),()))=some (((((l[i].1.1.1==x.1.1)&&(l[i].1.1.2==x.1.2))&&(l[i].1.2==x.2)),()),((x.1.1,(x.1.2,(x.2,()))),())) :=
    au (fn:=Tryz.f163) (hG _ _ rfl) (by kernel_rfl) (by kernel_rfl) (X3 _ _ _)
   refine ar (j:=0) (by kernel_rfl) ((Ay _ _ _).trans ?_)
   refine ae (aT aG) (aa (aK (List.getElem?_eq_getElem aG)) ?_)
   refine aa aeI ?_
   rw [List.drop_eq_getElem_cons aG,Jb]
   by_cases he:l[i].1=x
   ·rw [if_pos he]
    exact ae ((kj l[i].1 x).trans (decide_eq_true he)) rfl
   ·rw [if_neg he]
    refine ag ((kj l[i].1 x).trans (decide_eq_false he)) ?_
    have:=ih (i+1) (by omega)
    have e:=aI aG hl
    show LX G 164162 iR Tryz.f162 jx (aP Tryz.prog 162 0) ((l,(((l.length:Nat):Int),(IntKind.wrap .i64 ((i:Int)+1),()))),(((x,()),()),()))=some ((Jb x (l.drop (i+1)) ((i+1:Nat):Int),()),((x,()),()))
    rw [e]
    exact this
 have:=loop l.length 0 (by omega)
 rw [List.drop_zero] at this
 exact this
theorem Zk(hG:HG G)(l:List ak)(x:ab)(hl:l.length≤1073741824):FX G 152 Gb ((l,x,()),())=some (oS zD (fN l x),()):=by
 refine au (fn:=Tryz.f152) (hG _ _ rfl) (by kernel_rfl) (by kernel_rfl) ((XZ _ _ _).trans ?_)
 refine aa (PW hG l x hl) ?_
 rcases Hk x l 0 with ⟨h1,h2⟩ | ⟨k,g,h1,h2,h3⟩
 ·have h1:Jb x l 0 = -1:=h1
  rw [h2]
  exact ae (decide_eq_true (show Jb x l 0<0 by omega)) rfl
 ·have h1:Jb x l 0=(k:Int):=by
   have:Jb x l ((0:Nat):Int)=Jb x l 0:=rfl
   rw [←this,h1];congr 1;omega
  rw [h3]
  refine ag (decide_eq_false (show ¬Jb x l 0<0 by omega)) ?_
  refine aa (show aZ l (Jb x l 0)=some g by rw [h1];exact aK h2) ?_
  rfl
theorem Zl(hG:HG G)(s:StateT)(x:ab)(hs:Sm s.1)(hg:s.2.length≤50000000):FX G 132 wQ ((s,x,()),())=some ((resolve s x,()),()):=by
 refine au (fn:=Tryz.f132) (hG _ _ rfl) (by kernel_rfl) (by kernel_rfl) ((XL _ _ _).trans ?_)
 have hw:IntKind.wrap .i64 (((s.2.length:Nat):Int)+1)=((s.2.length+1:Nat):Int):=by rw [wrap_small (by omega) (by omega)];rfl
 have loop:∀(n i:Nat) (y:ab),i+n=s.2.length+1→LX G 132 wQ Tryz.f132 ub (aP Tryz.prog 132 0) (((IntKind.wrap .i64 (((s.2.length:Nat):Int)+1)),((i:Int),())),(((s,()),((y,()),((zD,()),()))),()))=some ((res s.1 s.2 n y,()),()):=by
  intro n
  induction n with
  | zero =>
   intro i y hi
   refine ar (j:=0) (by kernel_rfl) ((JS _ _ _).trans ?_)
   exact ag (decide_eq_false (show ¬((i:Int)<IntKind.wrap .i64 (((s.2.length:Nat):Int)+1)) by rw [hw];omega)) rfl
  | succ n ih =>
   intro i y hi
   refine ar (j:=0) (by kernel_rfl) ((JS _ _ _).trans ?_)
   refine ae (decide_eq_true (show ((i:Int)<IntKind.wrap .i64 (((s.2.length:Nat):Int)+1)) by rw [hw];omega)) ?_
   refine aa (Tu hG s.1 y hs) ?_
   rw [res]
   have h1:(oS zI (cr s.1 y)).2.1=(cr s.1 y).isSome:=gQ _ _
   cases ha:(cr s.1 y).isSome
   ·rw [if_neg (by simp)]
    refine ag (h1.trans ha) ?_
    refine aa (Zk hG s.2 y (by omega)) ?_
    cases hf:fN s.2 y with
    | none=>exact ae rfl rfl
    | some z =>
     refine ag rfl ?_
     have:=ih (i+1) z (by omega)
     have e:IntKind.wrap .i64 ((i:Int)+1)=((i+1:Nat):Int):=by rw [wrap_small (by omega) (by omega)];rfl
     rw [←e] at this
     exact this
   ·rw [if_pos rfl]
    exact ae (h1.trans ha) rfl
 exact loop (s.2.length+1) 0 x (by omega)
theorem Zm(hG:HG G)(s:StateT)(c:oX)(hs:Sm s.1)(hg:s.2.length≤50000000):FX G 112 F4 ((s,c,()),())=some (aU s c,()):=by
 refine au (fn:=Tryz.f112) (hG _ _ rfl) (by kernel_rfl) (by kernel_rfl) ((Xw _ _ _).trans ?_)
 refine aa (Zj hG s.1 c.1 hs) ?_
 unfold aU
 cases hf:bj s.1 c.1 with
 | none=>exact ae rfl rfl
 | some v =>
  refine ag rfl ?_
  refine aa (Zl hG s c.2 hs hg) ?_
  refine aa (CR hG v.2.1 (resolve s c.2) (by have:=hs.r v (fW hf);omega)) ?_
  show _=some (((c.1,ux s c v),((0:Int),())),())
  unfold ux
  by_cases hm:resolve s c.2∈v.2.1
  ·rw [if_pos hm]
   exact aX (decide_eq_true hm) rfl
  ·rw [if_neg hm]
   exact aX (decide_eq_false hm) rfl
def Jc(G:(f:FuncId)→(g:aJ)→Option (g.A→Option g.B)):Prop:=∀d,Wf d→FX G 114 zO ((d,()),())=some ((decide (iU d=0),()),())
theorem Km{l:List ah}{e:List af}{c:oX}{v:ah}(hs:bW l)(hf:aR l c.1=some v)(x:ab):l.set (bC l c.1) (v.1,(lC v.2.1 c.2 x,v.2.2))=(bR (l,e) c x).1:=by
 rw [IY hs (cZ hs hf)]
 have hi:=j9 hf
 have hm:=fW hf
 unfold bR Vs.b6
 rw [←hi,jE (d:=(l,e)) hs hm]
theorem Ba{d:ai}(h:Wf d):oo d.1 d.2=true:=by
 unfold oo
 have h1:=h.nv;have h2:=h.ne
 simp only [Bool.and_eq_true,decide_eq_true_eq,List.all_eq_true]
 exact ⟨by omega,by omega,fun v hv=>by have:=h.vT v hv;omega⟩
theorem RV(hG:HG G)(hp:Jc G)(o:bw):qp G o:=by
 intro s h hm My
 have QN:=h.d.nv;have bh:=h.d.ne;have hn:=h.n
 have RR:=h.d.small
 have bO:=Pu hm
 have start:∀(e:Int) (w:aC),bZ 92 m8 Tryz.f92 (FX G) (LX G 92 m8 Tryz.f92) ((o,()),(aF s,()))=some ((e,()),(w,()))→FX G 92 m8 ((o,()),(aF s,()))=some ((e,()),(w,())):=fun e w a =>
  au (fn:=Tryz.f92) (hG _ _ rfl) (by kernel_rfl) (by kernel_rfl) a
 have f110:=Tj hG (aF s) (aS o) h.d.se (by show s.1.2.length≤_;omega)
 unfold ql
 cases hf:(bf s.1.2 (aS o)).isSome with
 | true =>
  have e1:r8 (aF s) (aS o)=(12,aF s):=if_pos hf
  rw [e1] at f110
  refine ⟨12,aF s,start _ _ ((Uq _ _ _).trans (ae (Ba h.d) (aa f110 (ae rfl rfl)))),?_⟩
  rw [if_pos (show (gH s.1 (aS o)).isSome=true from hf)];rfl
 | false =>
 rw [if_neg (show ¬(gH s.1 (aS o)).isSome=true by show ¬(bf s.1.2 (aS o)).isSome=true;rw [hf];simp)]
 by_cases Zn:40≤s.1.2.length
 ·have e1:r8 (aF s) (aS o)=(3,aF s):=(if_neg (show ¬(bf s.1.2 (aS o)).isSome=true by rw [hf];simp)).trans (if_pos Zn)
  rw [e1] at f110
  refine ⟨3,aF s,start _ _ ((Uq _ _ _).trans (ae (Ba h.d) (aa f110 (ae rfl rfl)))),?_⟩
  rw [if_pos Zn];rfl
 rw [if_neg Zn]
 obtain ⟨E,hE⟩:∃E,E=dp (aS o,(e0,0)) s.1.2:=⟨_,rfl⟩
 have e1:r8 (aF s) (aS o)=(0,(s.1.1,(E,(s.2,())))):=by rw [hE];exact (if_neg (show ¬(bf s.1.2 (aS o)).isSome=true by rw [hf];simp)).trans (if_neg Zn)
 rw [e1] at f110
 obtain ⟨x,hx⟩:∃x:ab,x=(aS o,0):=⟨_,rfl⟩
 obtain ⟨y,hy⟩:∃y:ab,y=(aS o,1):=⟨_,rfl⟩
 have f111:FX G 111 zM ((aS o,()),())=some ((x,y,()),()):=by
  rw [hx,hy];exact au (fn:=Tryz.f111) (hG _ _ rfl) (by kernel_rfl) (by kernel_rfl) (SY _ _ _)
 have f112:=fun c:oX=>Zm hG s c h.d.sm (by omega)
 have go:∀(e:Int) (w:aC),LX G 92 m8 Tryz.f92 lA (aP Tryz.prog 92 0) (((2:Int),((0:Int),())),(((s.1.1,(E,(s.2,()))),((s,()),((x,()),()))),([x,y],([oA o,oB o],()))))=some ((e,()),(w,()))→FX G 92 m8 ((o,()),(aF s,()))=some ((e,()),(w,())):=fun e w a =>
  start _ _ ((Uq _ _ _).trans (ae (Ba h.d) (aa f110 (ag rfl (aa f111 a)))))
 by_cases hA:(aU s (oA o)).2.1=0
 case neg =>
  rw [if_pos hA]
  have aeJ:aU s (oA o)=(zC,(13,())):=by
   unfold aU at hA ⊢
   cases hv:bj s.1 (oA o).1 with
   | none=>rfl
   | some v=>rw [hv] at hA;exact absurd rfl hA
  refine ⟨13,(s.1.1,(E,(s.2,()))),go _ _ ?_,rfl⟩
  refine ar (j:=0) (by kernel_rfl) ((vD _ _ _).trans ?_)
  refine ae rfl (ae rfl (aa (a:=oA o) rfl (aa (f112 (oA o)) ?_)))
  rw [aeJ]
  exact ae rfl rfl
 rw [if_neg (fun k=>k hA)]
 obtain ⟨va,ca⟩:=oE hA
 obtain ⟨cA,hcA⟩:∃c:oX,c=(aU s (oA o)).1:=⟨_,rfl⟩
 have eA:aU s (oA o)=(cA,(0,())):=by
  rw [hcA]
  have:(aU s (oA o)).2=(0,()):=by
   have h1:(aU s (oA o)).2=((aU s (oA o)).2.1,()):=rfl
   rw [h1,hA]
  rw [←this]
 have cAv:(aR s.1.1 cA.1).isSome=true:=by rw [hcA,ca];exact va
 obtain ⟨v1,tD⟩:=Option.isSome_iff_exists.1 cAv
 have U7:=fW tD
 obtain ⟨d1,LY⟩:∃d1:ai,d1=bR (s.1.1,E) cA x:=⟨_,rfl⟩
 have aeL:s.1.1.set (bC s.1.1 cA.1) (v1.1,(lC v1.2.1 cA.2 x,v1.2.2))=d1.1:=by rw [LY];exact Km h.d.sv tD x
 have Tv:bW d1.1:=by rw [LY];exact h.d.sv.re _ _
 have hl1:=(List.getElem?_eq_some_iff.1 (cZ h.d.sv tD)).1
 have Tw:∀v∈d1.1,v.2.1.length≤50000000:=fun v hv=>by
  rw [LY] at hv
  obtain ⟨w,hw,rfl⟩:=List.mem_map.1 (show v∈s.1.1.map (qW cA.1 (lC (bJ (s.1.1,E) cA.1) cA.2 x)) from hv)
  have h1:=h.d.vT w hw
  unfold qW
  split
  ·have h2:=wW (bJ (s.1.1,E) cA.1) cA.2 x
   have h3:(bJ (s.1.1,E) cA.1).length≤80:=by
    rw [←j9 tD,jE (d:=(s.1.1,E)) h.d.sv U7]
    exact h.d.vT v1 U7
   show (lC (bJ (s.1.1,E) cA.1) cA.2 x).length≤50000000
   omega
  ·omega
 have d1l:d1.1.length=s.1.1.length:=by rw [LY];exact fP _ _ _
 have Tx:∀(e:Int) (w:aC),LX G 92 m8 Tryz.f92 lA (aP Tryz.prog 92 0) (((2:Int),((1:Int),())),(((d1.1,(E,(s.2,()))),((s,()),((x,()),()))),([x,y],([oA o,oB o],()))))=some ((e,()),(w,()))→FX G 92 m8 ((o,()),(aF s,()))=some ((e,()),(w,())):=fun e w a=>by
  refine go _ _ ?_
  refine ar (j:=0) (by kernel_rfl) ((vD _ _ _).trans ?_)
  refine ae rfl (ae rfl (aa (a:=oA o) rfl (aa (f112 (oA o)) ?_)))
  rw [eA]
  refine ag rfl (ag rfl ?_)
  refine aa (oT hG (s.1.1,(E,(s.2,()))) cA.1 h.d.sv RR.n) ?_
  refine ae (dx (eI _) (aT hl1)) (aa (cZ h.d.sv tD) ?_)
  refine ae rfl (aa (a:=x) rfl ?_)
  refine aa (Pr hG v1.2.1 cA.2 x (RR.r v1 U7)) ?_
  refine aa (cZ h.d.sv tD) ?_
  have key:∀a1:List ah,a1=d1.1→LX G 92 m8 Tryz.f92 lA (aP Tryz.prog 92 0) (((2:Int),((1:Int),())),(((a1,(E,(s.2,()))),((s,()),((x,()),()))),([x,y],([oA o,oB o],()))))=some ((e,()),(w,())):=fun a1 Dc=>by subst Dc;exact a
  exact key _ aeL
 by_cases hB:(aU s (oB o)).2.1=0
 case neg =>
  rw [if_pos hB]
  have aeM:aU s (oB o)=(zC,(13,())):=by
   unfold aU at hB ⊢
   cases hv:bj s.1 (oB o).1 with
   | none=>rfl
   | some v=>rw [hv] at hB;exact absurd rfl hB
  refine ⟨13,(d1.1,(E,(s.2,()))),Tx _ _ ?_,rfl⟩
  refine ar (j:=0) (by kernel_rfl) ((vD _ _ _).trans ?_)
  refine ae rfl (ae rfl (aa (a:=oB o) rfl (aa (f112 (oB o)) ?_)))
  rw [aeM]
  exact ae rfl rfl
 rw [if_neg (fun k=>k hB)]
 obtain ⟨vb,cb⟩:=oE hB
 obtain ⟨cB,Zo⟩:∃c:oX,c=if (bj s.1 (oB o).1).isSome=true∧(oB o).2=(aS o,0) then oB o else (aU s (oB o)).1:=⟨_,rfl⟩
 have eB:aU s (oB o)=((aU s (oB o)).1,(0,())):=by
  have:(aU s (oB o)).2=(0,()):=by
   have h1:(aU s (oB o)).2=((aU s (oB o)).2.1,()):=rfl
   rw [h1,hB]
  rw [←this]
 have cB1:cB.1=(oB o).1:=by rw [Zo];split;rfl;exact cb
 have cBv:(aR d1.1 cB.1).isSome=true:=by
  rw [LY]
  exact GW _ (by rw [cB1];exact vb)
 obtain ⟨v2,wo⟩:=Option.isSome_iff_exists.1 cBv
 have Zp:=fW wo
 have sB:=(List.getElem?_eq_some_iff.1 (cZ Tv wo)).1
 obtain ⟨d2,Q0⟩:∃d2:ai,d2=bR d1 cB y:=⟨_,rfl⟩
 have RW:d1.1.set (bC d1.1 cB.1) (v2.1,(lC v2.2.1 cB.2 y,v2.2.2))=d2.1:=by rw [Q0];exact Km (e:=d1.2) Tv wo y
 have Ty:kx s o=d2:=by
  rw [Q0,LY,hcA,Zo,hx,hy,hE];rfl
 have hE2:d2.2=E:=by rw [Q0,LY];rfl
 have hwf:Wf d2:=by
  rw [←Ty]
  unfold kx
  have hn0:bf s.1.2 (aS o)=none:=by simpa using hf
  refine h.d.link bO hn0 Zn (by rw [ca];exact va) ?_
  rw [←Zo,cB1];exact vb
 have last:∀(e:Int) (w:aC),LX G 92 m8 Tryz.f92 lA (aP Tryz.prog 92 0) (((2:Int),((2:Int),())),(((d2.1,(E,(s.2,()))),((s,()),((x,()),()))),([x,y],([oA o,oB o],()))))=some ((e,()),(w,()))→FX G 92 m8 ((o,()),(aF s,()))=some ((e,()),(w,())):=fun e w a=>by
  refine Tx _ _ ?_
  refine ar (j:=0) (by kernel_rfl) ((vD _ _ _).trans ?_)
  refine ae rfl (ae rfl (aa (a:=oB o) rfl (aa (f112 (oB o)) ?_)))
  rw [eB]
  have key:∀a2:List ah,a2=d2.1→LX G 92 m8 Tryz.f92 lA (aP Tryz.prog 92 0) (((2:Int),((2:Int),())),(((a2,(E,(s.2,()))),((s,()),((x,()),()))),([x,y],([oA o,oB o],()))))=some ((e,()),(w,())):=fun a2 B4=>by subst B4;exact a
  refine ag rfl (ae rfl ?_)
  have oV:=kj (oB o).2 x
  by_cases VT:(oB o).2=x
  ·have ecB:cB=oB o:=by rw [Zo];exact if_pos ⟨vb,VT.trans hx⟩
   refine ae (oV.trans (decide_eq_true VT)) ?_
   rw [ecB] at wo sB RW
   refine aa (oT hG (d1.1,(E,(s.2,()))) (oB o).1 Tv (by show d1.1.length≤_;omega)) ?_
   refine ae (dx (eI _) (aT sB)) (aa (cZ Tv wo) ?_)
   refine ae rfl (aa (a:=y) rfl ?_)
   refine aa (Pr hG v2.2.1 (oB o).2 y (Tw v2 Zp)) ?_
   refine aa (cZ Tv wo) ?_
   exact key _ RW
  ·have ecB:cB=(aU s (oB o)).1:=by rw [Zo];exact if_neg (fun k=>VT (k.2.trans hx.symm))
   refine ag (oV.trans (decide_eq_false VT)) ?_
   rw [ecB] at wo sB RW
   refine aa (oT hG (d1.1,(E,(s.2,()))) (aU s (oB o)).1.1 Tv (by show d1.1.length≤_;omega)) ?_
   refine ae (dx (eI _) (aT sB)) (aa (cZ Tv wo) ?_)
   refine ae rfl (aa (a:=y) rfl ?_)
   refine aa (Pr hG v2.2.1 (aU s (oB o)).1.2 y (Tw v2 Zp)) ?_
   refine aa (cZ Tv wo) ?_
   exact key _ RW
 have f114:=hp d2 hwf
 rw [Ty]
 have e2:(d2.1,E)=d2:=by rw [←hE2]
 by_cases hg:iU d2=0
 ·rw [if_neg (fun k=>k hg)]
  refine ⟨0,(d2.1,(E,(s.2,()))),last _ _ ?_,?_⟩
  ·refine ar (j:=0) (by kernel_rfl) ((vD _ _ _).trans ?_)
   refine ag rfl ?_
   have key:∀q:ai,q=d2→((FX G 114 zO ((q,()),())).bind fun (Gi:((Bool×Unit)×Unit))=>cond (not Gi.1.1) (some (((15:Int),()),((d2.1,(E,(s.2,()))),()))) (some (((0:Int),()),((d2.1,(E,(s.2,()))),()))))=some (((0:Int),()),((d2.1,(E,(s.2,()))),())):=fun q hq=>by
    subst hq
    exact aa f114 (aX (decide_eq_true hg) rfl)
   exact key _ e2
  ·show (xY (d2.1,(E,(s.2,()))),((0:Int),()))=((d2,s.2),(0,()))
   show (((d2.1,E),s.2),((0:Int),()))=((d2,s.2),(0,()))
   rw [e2]
 ·rw [if_pos hg]
  refine ⟨15,(d2.1,(E,(s.2,()))),last _ _ ?_,rfl⟩
  refine ar (j:=0) (by kernel_rfl) ((vD _ _ _).trans ?_)
  refine ag rfl ?_
  have key:∀q:ai,q=d2→((FX G 114 zO ((q,()),())).bind fun (Gi:((Bool×Unit)×Unit))=>cond (not Gi.1.1) (some (((15:Int),()),((d2.1,(E,(s.2,()))),()))) (some (((0:Int),()),((d2.1,(E,(s.2,()))),()))))=some (((15:Int),()),((d2.1,(E,(s.2,()))),())):=fun q hq=>by
   subst hq
   exact aa f114 (aX (decide_eq_false hg) rfl)
  exact key _ e2
end Go.Vs
namespace Go.Vs
open Go.Proofs
variable {G:(f:FuncId)→(g:aJ)→Option (g.A→Option g.B)}
theorem Zq(hG:HG G)(row:List ab)(d:ab)(hl:row.length≤100000000):FX G 182 Gg ((row,d,()),())=some (GA (dw row d 1),()):=by
 refine au (fn:=Tryz.f182) (hG _ _ rfl) (by kernel_rfl) (by kernel_rfl) ((Yb _ _ _).trans ?_)
 have key:FX G 157 zU ((row,(d,((1:Int),()))),())=some (GA (dw row d 1),()):=by
  refine au (fn:=Tryz.f157) (hG _ _ rfl) (by kernel_rfl) (by kernel_rfl) ((SZ _ _ _).trans ?_)
  refine aa (AK (hG _ _ rfl) row d (by omega)) ?_
  unfold dw
  by_cases hd:d∈row
  ·rw [if_pos hd]
   obtain ⟨k,h1,h2,h3⟩:=eW hd
   have aG:=(List.getElem?_eq_some_iff.1 h2).1
   refine ag (decide_eq_false (show ¬idx d row 0<0 by omega)) ?_
   refine ag (Ej hd) ?_
   have Rk:IntKind.wrap .i64 (idx d row 0+1)=((k+1:Nat):Int):=by rw [h1,wrap_small (by omega) (by omega)];rfl
   have ry:(k+1) % row.length<row.length:=Nat.mod_lt _ (by omega)
   have hx:=List.getElem?_eq_getElem ry
   refine aa (show aZ row (Int.tmod (IntKind.wrap .i64 (idx d row 0+1)) ((row.length:Nat):Int))=some row[(k+1) % row.length] by rw [Rk,qg];exact aK hx) ?_
   rw [h1,Int.toNat_natCast,hx];rfl
  ·rw [if_neg hd]
   exact ae (decide_eq_true (dX.2 hd)) rfl
 refine aa key ?_
 rfl
def Hl(x:ab):List ah→Option ab
 | []=>none
 | v::r=>if x∈v.2.1 then dw v.2.1 x 1 else Hl x r
theorem Kn{l:List ah}(h:Rw l){v:ah}{x:ab}(hv:v∈l)(hx:x∈v.2.1):∀r,(∀u∈r,u∈l)→v∈r→Hl x r=dw v.2.1 x 1
 | [],_,k=>by cases k
 | u::r,hs,k=>by
  rw [Hl]
  by_cases hu:x∈u.2.1
  ·rw [if_pos hu,h.one hv (hs u List.mem_cons_self) hx hu]
  ·rw [if_neg hu]
   rcases List.mem_cons.1 k with e | k
   ·rw [e] at hx;exact absurd hx hu
   ·exact Kn h hv hx r (fun w hw=>hs w (List.mem_cons_of_mem _ hw)) k
theorem Dd{x:ab}:∀{l:List ah},x∉aw l→Hl x l=none
 | [],_=>rfl
 | v::r,h=>by
  rw [jB,List.mem_append] at h
  rw [Hl,if_neg (fun k=>h (.inl k))]
  exact Dd fun k=>h (.inr k)
theorem Jd{d:ai}(h:Rw d.1)(x:ab):Hl x d.1=nm d x:=by
 by_cases hx:x∈aw d.1
 ·obtain ⟨v,hv,km⟩:=bD.1 hx
  rw [A2 h hv km]
  exact Kn h hv km d.1 (fun _ k=>k) hv
 ·rw [Dd hx]
  unfold nm cr
  rw [GR hx]
theorem Zr(hG:HG G)(d:ai)(x:ab)(hs:Sm d)(h:Rw d.1):FX G 179 wT ((d,x,()),())=some (GA (nm d x),()):=by
 have hv:=hs.v
 rw [←Jd h x]
 refine au (fn:=Tryz.f179) (hG _ _ rfl) (by kernel_rfl) (by kernel_rfl) ((X8 _ _ _).trans ?_)
 have loop:∀(n i:Nat),i+n=d.1.length→LX G 179 wT Tryz.f179 uj (aP Tryz.prog 179 0) ((d.1,(((d.1.length:Nat):Int),((i:Int),()))),(((x,()),((zD,()),())),()))=some (GA (Hl x (d.1.drop i)),()):=by
  intro n
  induction n with
  | zero =>
   intro i hi
   refine ar (j:=0) (by kernel_rfl) ((J3 _ _ _).trans ?_)
   refine ag (decide_eq_false (show ¬((i:Int)<((d.1.length:Nat):Int)) by omega)) ?_
   rw [List.drop_eq_nil_of_le (by omega)];rfl
  | succ n ih =>
   intro i hi
   have aG:i<d.1.length:=by omega
   refine ar (j:=0) (by kernel_rfl) ((J3 _ _ _).trans ?_)
   refine ae (aT aG) (aa (aK (List.getElem?_eq_getElem aG)) ?_)
   refine aa (Zq hG d.1[i].2.1 x (by have:=hs.r _ (List.getElem_mem aG);omega)) ?_
   rw [List.drop_eq_getElem_cons aG,Hl]
   by_cases he:x∈d.1[i].2.1
   ·rw [if_pos he]
    unfold dw
    rw [if_pos he]
    obtain ⟨k,h1,h2,h3⟩:=eW he
    have hl:=(List.getElem?_eq_some_iff.1 h2).1
    have hm:((idx x d.1[i].2.1 0).toNat+1) % d.1[i].2.1.length<d.1[i].2.1.length:=Nat.mod_lt _ (by omega)
    rw [List.getElem?_eq_getElem hm]
    exact ae rfl rfl
   ·rw [if_neg he]
    unfold dw
    rw [if_neg he]
    refine ag rfl ?_
    have:=ih (i+1) (by omega)
    rw [←aI aG (by omega)] at this
    exact this
 have:=loop d.1.length 0 (by omega)
 rw [List.drop_zero] at this
 exact this
theorem at_mem{d:ai}{x:ab}(h:(cr d x).isSome=true):x∈aw d.1:=by
 apply Classical.byContradiction
 intro k
 unfold cr at h
 rw [GR k] at h
 cases h
theorem Zs(hG:HG G)(d:ai)(x:ab)(h:Wf d):FX G 176 CH ((d,x,()),())=some (GA (GG d x),()):=by
 have hs:=h.sm
 refine au (fn:=Tryz.f176) (hG _ _ rfl) (by kernel_rfl) (by kernel_rfl) ((X6 _ _ _).trans ?_)
 refine aa (Tu hG d x hs) ?_
 have h1:(oS zI (cr d x)).2.1=(cr d x).isSome:=gQ _ _
 unfold GG
 cases ha:(cr d x).isSome
 ·rw [if_neg (by simp)]
  exact aX (h1.trans ha) rfl
 ·rw [if_pos rfl]
  refine aX (h1.trans ha) ?_
  refine aa (G1 (hG _ _ rfl) x (h.side (at_mem ha))) ?_
  exact aa (Zr hG d (aq x) hs h.rw) rfl
theorem Zt(hG:HG G)(d:ai)(hs:Sm d):FX G 171 tY ((d,()),())=some ((dY d.2,()),()):=by
 have he:=hs.e
 refine au (fn:=Tryz.f171) (hG _ _ rfl) (by kernel_rfl) (by kernel_rfl) ((X5 _ _ _).trans ?_)
 have loop:∀(n i:Nat) (out:List ab),i+n=d.2.length→out.length=2 * i→LX G 171 tY Tryz.f171 ug (aP Tryz.prog 171 0) ((d.2,(((d.2.length:Nat):Int),((i:Int),()))),((),(out,())))=some ((out++dY (d.2.drop i),()),()):=by
  intro n
  induction n with
  | zero =>
   intro i out hi ho
   refine ar (j:=0) (by kernel_rfl) ((JY _ _ _).trans ?_)
   refine ag (decide_eq_false (show ¬((i:Int)<((d.2.length:Nat):Int)) by omega)) ?_
   rw [List.drop_eq_nil_of_le (by omega)]
   show some ((out,()),())=some ((out++[],()),())
   rw [List.append_nil]
  | succ n ih =>
   intro i out hi ho
   have aG:i<d.2.length:=by omega
   refine ar (j:=0) (by kernel_rfl) ((JY _ _ _).trans ?_)
   refine ae (aT aG) (aa (aK (List.getElem?_eq_getElem aG)) ?_)
   refine aa (G1 (hG _ _ rfl) (d.2[i].1,0) (.inl rfl)) ?_
   refine ae (fits (by show out.length+2≤_;omega)) ?_
   have:=ih (i+1) (out++[(d.2[i].1,0),(d.2[i].1,1)]) (by omega) (by simp [ho];omega)
   rw [List.drop_eq_getElem_cons aG]
   rw [←aI aG (by omega),List.append_assoc] at this
   exact this
 exact loop d.2.length 0 [] (by omega) rfl
theorem PX(hG:HG G)(l:List ah)(hl:l.length≤50000000):FX G 166164 j4 ((l,()),())=some ((((al l:Nat):Int),()),()):=by
 refine au (fn:=Tryz.f164) (hG _ _ rfl) (by kernel_rfl) (by kernel_rfl) ((OO _ _ _).trans ?_)
 have loop:∀(n i m:Nat),i+n=l.length→m≤i→LX G 166164 j4 Tryz.f164 jy (aP Tryz.prog 164 0) (((m:Int),(l,(((l.length:Nat):Int),((i:Int),())))),((),()))=some ((((m+al (l.drop i):Nat):Int),()),()):=by
  intro n
  induction n with
  | zero =>
   intro i m hi hm
   refine ar (j:=0) (by kernel_rfl) ((Az _ _ _).trans ?_)
   refine ag (decide_eq_false (show ¬((i:Int)<((l.length:Nat):Int)) by omega)) ?_
   rw [List.drop_eq_nil_of_le (by omega)];rfl
  | succ n ih =>
   intro i m hi hm
   have aG:i<l.length:=by omega
   have aeO:FX G 165 Ge ((l[i],()),())=some ((l[i].2.1.isEmpty,()),()):=by
    refine au (fn:=Tryz.f165) (hG _ _ rfl) (by kernel_rfl) (by kernel_rfl) ((X4 _ _ _).trans ?_)
    have:(((l[i].2.1.length:Nat):Int)==0)=l[i].2.1.isEmpty:=by cases l[i].2.1<;>simp;omega
    exact congrArg (fun b:Bool=>some ((b,()),())) this
   refine ar (j:=0) (by kernel_rfl) ((Az _ _ _).trans ?_)
   refine ae (aT aG) (aa (aK (List.getElem?_eq_getElem aG)) ?_)
   refine aa aeO ?_
   rw [List.drop_eq_getElem_cons aG]
   unfold al
   rw [List.countP_cons]
   cases hb:l[i].2.1.isEmpty
   ·refine ag rfl ?_
    have:=ih (i+1) m (by omega) (by omega)
    rw [←aI aG (by omega)] at this
    exact this
   ·refine ae rfl ?_
    have:=ih (i+1) (m+1) (by omega) (by omega)
    rw [←aI aG (by omega),←aI (i:=m) (n:=l.length) (by omega) (by omega)] at this
    refine this.trans ?_
    refine congrArg (fun q:Nat=>some ((((q:Nat):Int),()),())) ?_
    unfold al
    simp;omega
 have:=loop l.length 0 0 (by omega) (by omega)
 rw [List.drop_zero,Nat.zero_add] at this
 exact this
end Go.Vs
namespace Go.Vs
open Go.Proofs
variable {G:(f:FuncId)→(g:aJ)→Option (g.A→Option g.B)}
def Fo(g:List Nat):Prop:=∀(i x:Nat),g[i]? = some x→x≤i
def root(g:List Nat)(i:Nat):Nat :=
 match g[i]? with
 | some x=>if h:x<i then root g x else i
 | none=>i
termination_by i
theorem dq{g:List Nat}{i x:Nat}(h:g[i]? = some x):root g i=if x<i then root g x else i:=by
 rw [root,h];simp
theorem kQ{g:List Nat}{i:Nat}(h:g[i]? = none):root g i=i:=by rw [root,h]
theorem Ko(g:List Nat):∀i,root g i≤i:=by
 intro i
 induction i using Nat.strongRecOn with
 | _ i ih =>
  cases h:g[i]? with
  | none=>rw [kQ h];exact Nat.le_refl _
  | some x =>
   rw [dq h]
   split
   ·rename_i hx;have:=ih x hx;omega
   ·exact Nat.le_refl _
theorem Hm{g:List Nat}(hf:Fo g):∀i,i<g.length→g[root g i]? = some (root g i):=by
 intro i
 induction i using Nat.strongRecOn with
 | _ i ih =>
  intro hi
  have h:=List.getElem?_eq_getElem hi
  rw [dq h]
  split
  ·rename_i hx;exact ih _ hx (by omega)
  ·have:=hf i _ h
   rw [h];congr 1;omega
theorem kR{g:List Nat}{i:Nat}(h:g[i]? = some i):root g i=i:=by rw [dq h,if_neg (by omega)]
theorem Fo.set{g:List Nat}(hf:Fo g){i y:Nat}(h:y≤i):Fo (g.set i y):=fun j x hj=>by
 rw [List.getElem?_set] at hj
 split at hj
 ·rename_i e;subst e
  split at hj
  ·cases hj;exact h
  ·cases hj
 ·exact hf j x hj
theorem Je{g:List Nat}(hf:Fo g){i x y:Nat}(hi:g[i]? = some x)(hx:g[x]? = some y)(aG:x<i):∀j,root (g.set i y) j=root g j:=by
 have hyx:=hf x y hx
 have nI:=(List.getElem?_eq_some_iff.1 hi).1
 intro j
 induction j using Nat.strongRecOn with
 | _ j ih =>
  by_cases e:j=i
  ·subst e
   have h1:(g.set j y)[j]? = some y:=by rw [List.getElem?_set];simp [nI]
   rw [dq h1,if_pos (by omega),ih y (by omega),dq hi,if_pos aG,dq hx]
   split
   ·rfl
   ·have:y=x:=by omega
    subst this;exact kR hx
  ·have h1:(g.set i y)[j]? = g[j]? := by rw [List.getElem?_set,if_neg (fun k=>e k.symm)]
   cases h:g[j]? with
   | none=>rw [kQ h,kQ (h1.trans h)]
   | some z =>
    rw [dq h,dq (h1.trans h)]
    split
    ·rename_i hz;exact ih z hz
    ·rfl
theorem Mg{g:List Nat}{a b:Nat}(ha:g[a]? = some a)(hb:g[b]? = some b):∀j,root (g.set (max a b) (min a b)) j=if root g j=max a b then min a b else root g j:=by
 have hm:g[max a b]? = some (max a b):=by rcases Nat.le_total a b with h | h<;>simp [Nat.max_eq_right,Nat.max_eq_left,h,ha,hb]
 have hn:g[min a b]? = some (min a b):=by rcases Nat.le_total a b with h | h<;>simp [Nat.min_eq_right,Nat.min_eq_left,h,ha,hb]
 have hml:=(List.getElem?_eq_some_iff.1 hm).1
 have hle:min a b≤max a b:=by omega
 generalize max a b=M at *
 generalize min a b=m at *
 have aG:∀j,(g.set M m)[j]? = if j=M then some m else g[j]? := fun j=>by
  rw [List.getElem?_set]
  by_cases e:M=j
  ·subst e;simp [hml]
  ·rw [if_neg e,if_neg (fun k=>e k.symm)]
 intro j
 induction j using Nat.strongRecOn with
 | _ j ih =>
  by_cases ej:j=M
  ·subst ej
   have h1:(g.set j m)[j]? = some m:=by rw [aG,if_pos rfl]
   rw [dq h1,kR hm,if_pos rfl]
   by_cases e:m<j
   ·rw [if_pos e,ih m e,kR hn,if_neg (by omega)]
   ·rw [if_neg e];omega
  ·have h1:(g.set M m)[j]? = g[j]? := by rw [aG,if_neg ej]
   cases h:g[j]? with
   | none=>rw [kQ h,kQ (h1.trans h),if_neg ej]
   | some z =>
    rw [dq h,dq (h1.trans h)]
    by_cases hz:z<j
    ·rw [if_pos hz,if_pos hz];exact ih z hz
    ·rw [if_neg hz,if_neg hz,if_neg ej]
def fI(g:List Nat):List Int:=g.map fun n=>((n:Nat):Int)
theorem Bb(g:List Nat):(fI g).length=g.length:=by simp [fI]
theorem tc{g:List Nat}{i x:Nat}(h:g[i]? = some x):(fI g)[Int.toNat (i:Int)]? = some (x:Int):=by simp [fI,h]
theorem PY(g:List Nat)(i x:Nat):(fI g).set (Int.toNat (i:Int)) (x:Int)=fI (g.set i x):=by simp [fI,List.map_set]
theorem Bc{g:List Nat}{i:Nat}(h:i<g.length):(decide ((0:Int)≤(i:Int))&&decide ((i:Int)<(((fI g).length:Nat):Int)))=true:=by
 rw [Bb];exact dx (eI i) (aT h)
structure De(g g':List Nat):Prop where
 f:Fo g'
 n:g'.length=g.length
 r:∀j,root g' j=root g j
theorem De.trans{a b c:List Nat}(h:De a b)(k:De b c):De a c:=⟨k.f,k.n.trans h.n,fun j=>(k.r j).trans (h.r j)⟩
theorem PZ(hG:HG G)(g:List Nat)(i:Nat)(hf:Fo g)(hi:i<g.length):∃g',De g g'∧FX G 181 p7 (((i:Int),()),(fI g,()))=some ((((root g i:Nat):Int),()),(fI g',())):=by
 have loop:∀(i:Nat) (g:List Nat),Fo g→i<g.length→∃g',De g g'∧LX G 181 p7 Tryz.f181 qT (aP Tryz.prog 181 0) (((i:Int),()),((),(fI g,())))=some ((((root g i:Nat):Int),()),(fI g',())):=by
  intro i
  induction i using Nat.strongRecOn with
  | _ i ih =>
   intro g hf hi
   have h:=List.getElem?_eq_getElem hi
   generalize g[i]=x at h
   have hxi:=hf i x h
   by_cases hx:x<i
   ·have h2:=List.getElem?_eq_getElem (show x<g.length by omega)
    generalize g[x]=y at h2
    have hyx:=hf x y h2
    have hs:=Je hf h h2 hx
    have hf2:Fo (g.set i y):=hf.set (by omega)
    obtain ⟨g',h3,h4⟩:=ih y (by omega) (g.set i y) hf2 (by rw [List.length_set];omega)
    refine ⟨g',⟨h3.f,by rw [h3.n,List.length_set],fun j=>(h3.r j).trans (hs j)⟩,?_⟩
    refine ar (j:=0) (by kernel_rfl) ((J4 _ _ _).trans ?_)
    refine ae (Bc hi) (aa (tc h) ?_)
    refine ae (show (((x:Nat):Int) != (i:Int))=true by rw [bne_iff_ne];omega) ?_
    refine ae (Bc hi) (aa (tc h) ?_)
    refine ae (Bc (show x<g.length by omega)) (aa (tc h2) ?_)
    refine ae (Bc hi) (aa (tc h) ?_)
    have aeP:=PY g i y
    have key:∀f:List Int,f=fI (g.set i y)→cond ((decide ((0:Int)≤(i:Int)))&&(decide ((i:Int)<(((List.length f):Nat):Int)))) (((f)[(Int.toNat (i:Int))]?).bind fun (y5:Int)=>LX G 181 p7 Tryz.f181 qT (aP Tryz.prog 181 0) ((y5,()),((),(f,())))) none=some ((((root g i:Nat):Int),()),(fI g',())):=fun f hf=>by
     subst hf
     refine ae (Bc (by rw [List.length_set];exact hi)) (aa (tc (x:=y) (by rw [List.getElem?_set];simp [hi])) ?_)
     rw [h4,hs y,dq h,if_pos hx,dq h2]
     by_cases hy:y<x
     ·rw [if_pos hy]
     ·have:y=x:=by omega
      subst this;rw [if_neg (by omega),kR h2]
    exact key _ aeP
   ·have:x=i:=by omega
    subst this
    refine ⟨g,⟨hf,rfl,fun _=>rfl⟩,?_⟩
    refine ar (j:=0) (by kernel_rfl) ((J4 _ _ _).trans ?_)
    refine ae (Bc hi) (aa (tc h) ?_)
    rw [kR h]
    exact ag (by simp) rfl
 obtain ⟨g',h1,h2⟩:=loop i g hf hi
 exact ⟨g',h1,au (fn:=Tryz.f181) (hG _ _ rfl) (by kernel_rfl) (by kernel_rfl) ((Ya _ _ _).trans h2)⟩
def Be(a b r:Nat):Nat:=if r=max a b then min a b else r
theorem Zu(hG:HG G)(g:List Nat)(i k:Nat)(hf:Fo g)(hi:i<g.length)(hk:k<g.length):∃g',Fo g'∧g'.length=g.length∧(∀j,root g' j=Be (root g i) (root g k) (root g j))∧FX G 180 Gf (((i:Int),((k:Int),())),(fI g,()))=some ((),(fI g',())):=by
 obtain ⟨g1,h1,e1⟩:=PZ hG g i hf hi
 obtain ⟨g2,h2,e2⟩:=PZ hG g1 k h1.f (by rw [h1.n];exact hk)
 rw [h1.r k] at e2
 have hs:=h1.trans h2
 have ra:g2[root g i]? = some (root g i):=by
  have:=Hm hs.f i (by rw [hs.n];exact hi)
  rw [hs.r i] at this;exact this
 have rb:g2[root g k]? = some (root g k):=by
  have:=Hm hs.f k (by rw [hs.n];exact hk)
  rw [hs.r k] at this;exact this
 have hal:=(List.getElem?_eq_some_iff.1 ra).1
 have hbl:=(List.getElem?_eq_some_iff.1 rb).1
 have hm:max (root g i) (root g k)<g2.length:=by omega
 refine ⟨g2.set (max (root g i) (root g k)) (min (root g i) (root g k)),hs.f.set (by omega),by rw [List.length_set,hs.n],fun j=>by rw [Mg ra rb j,hs.r j];rfl,?_⟩
 refine au (fn:=Tryz.f180) (hG _ _ rfl) (by kernel_rfl) (by kernel_rfl) ((X9 _ _ _).trans ?_)
 refine aa e1 (aa e2 ?_)
 have em:(max ((root g i:Nat):Int) ((root g k:Nat):Int):Int)=((max (root g i) (root g k):Nat):Int):=by omega
 have en:(min ((root g i:Nat):Int) ((root g k:Nat):Int):Int)=((min (root g i) (root g k):Nat):Int):=by omega
 have key:∀m n:Int,m=((max (root g i) (root g k):Nat):Int)→n=((min (root g i) (root g k):Nat):Int)→cond ((decide ((0:Int)≤m))&&(decide (m<(((List.length (fI g2)):Nat):Int)))) (((fI g2)[(Int.toNat m)]?).bind fun (y3:Int)=>(some ((),((List.set (fI g2) (Int.toNat m) n),())):Option (Unit×((List Int)×Unit)))) none=some ((),(fI (g2.set (max (root g i) (root g k)) (min (root g i) (root g k))),())):=fun m n QX HX=>by
  subst QX HX
  refine ae (Bc hm) (aa (tc (List.getElem?_eq_getElem hm)) ?_)
  rw [PY]
 exact key _ _ em en
end Go.Vs
namespace Go.Vs
open Go.Proofs
variable {G:(f:FuncId)→(g:aJ)→Option (g.A→Option g.B)}
theorem Jf{α:Type}(x:ab)(es:List (ab×α)):so bm x es=es.findIdx? fun e=>decide (e.1=x):=by
 show List.findIdx? (fun e:ab×α=>((x.1.1==e.1.1.1)&&(x.1.2==e.1.1.2))&&(x.2==e.1.2)) es=_
 congr 1
 funext e
 rw [kj x e.1]
 by_cases h:x=e.1
 ·rw [decide_eq_true h,decide_eq_true h.symm]
 ·rw [decide_eq_false h,decide_eq_false (fun k=>h k.symm)]
def fa{β α:Type}[DecidableEq β](x:β):List (β×α)→Option α
 | []=>none
 | e::r=>if e.1=x then some e.2 else fa x r
theorem Jg{β α:Type}[DecidableEq β](x:β):∀es:List (β×α),((es.findIdx? fun e=>decide (e.1=x)).bind fun i=>(es[i]?).map (·.2))=fa x es
 | []=>rfl
 | e::r=>by
  have ih:=Jg x r
  rw [List.findIdx?_cons,fa]
  by_cases h:e.1=x
  ·rw [if_pos (decide_eq_true h),if_pos h];rfl
  ·rw [if_neg (by simpa using h),if_neg h,←ih]
   cases r.findIdx? fun e=>decide (e.1=x)<;>simp
theorem P0{α:Type}(x:ab)(es:List (ab×α)):iD bm x es=fa x es:=by
 have:=Jg x es
 rw [←Jf] at this
 exact this
theorem P1{α:Type}{x:ab}(v:α){es:List (ab×α)}(h:x∉es.map (·.1)):lM bm x v es=es++[(x,v)]:=by
 have e:so bm x es=none:=by
  rw [Jf,List.findIdx?_eq_none_iff]
  intro q hq
  exact decide_eq_false fun k=>h (List.mem_map.2 ⟨q,hq,k⟩)
 unfold lM
 split
 ·rename_i i k;rw [e] at k;cases k
 ·rfl
theorem Ho{β α:Type}[DecidableEq β]{x:β}{v:α}:∀{es:List (β×α)},(es.map (·.1)).Nodup→(x,v)∈es→fa x es=some v
 | [],_,h=>by cases h
 | e::r,hn,h=>by
  simp only [List.map_cons,List.nodup_cons] at hn
  rw [fa]
  rcases List.mem_cons.1 h with e1 | h
  ·subst e1;rw [if_pos rfl]
  ·rw [if_neg (fun k=>hn.1 (by rw [k];exact List.mem_map.2 ⟨_,h,rfl⟩))]
   exact Ho hn.2 h
def gK:List ah→Nat→List (ab×Int)
 | [],_=>[]
 | v::r,i=>v.2.1.map (fun x=>(x,(i:Int)))++gK r (i+1)
theorem vX:∀(l:List ah) (i:Nat),(gK l i).map (·.1)=aw l
 | [],_=>rfl
 | v::r,i=>by
  have e:(v.2.1.map fun x=>(x,(i:Int))).map (·.1)=v.2.1:=by rw [List.map_map];exact List.map_id _
  rw [gK,jB,List.map_append,vX r,e]
theorem Hq:∀(a b:List ah) (i:Nat),gK (a++b) i=gK a i++gK b (i+a.length)
 | [],b,i=>rfl
 | v::r,b,i=>by
  rw [List.cons_append,gK,gK,Hq r b,List.append_assoc]
  congr 3
  simp;omega
theorem Hr{x:ab}{a:Int}:∀{l:List ah} {i:Nat},(x,a)∈gK l i→∃k v,l[k]? = some v∧a=((i+k:Nat):Int)∧x∈v.2.1
 | [],i,h=>by cases h
 | v::r,i,h=>by
  rw [gK] at h
  rcases List.mem_append.1 h with h | h
  ·obtain ⟨y,hy,e⟩:=List.mem_map.1 h
   cases e
   exact ⟨0,v,rfl,rfl,hy⟩
  ·obtain ⟨k,u,h1,h2,h3⟩:=Hr h
   exact ⟨k+1,u,by simpa using h1,by rw [h2];congr 1;omega,h3⟩
theorem Kp{x:ab}:∀{l:List ah} {i k:Nat} {v:ah},l[k]? = some v→x∈v.2.1→(x,((i+k:Nat):Int))∈gK l i
 | v::r,i,0,u,h,hx=>by
  simp at h;subst h
  rw [gK];exact List.mem_append_left _ (List.mem_map.2 ⟨x,hx,rfl⟩)
 | v::r,i,k+1,u,h,hx=>by
  rw [gK]
  refine List.mem_append_right _ ?_
  have:=Kp (i:=i+1) (k:=k) (by simpa using h) hx
  rwa [show i+1+k=i+(k+1) by omega] at this
theorem P2(i:Nat):fI (List.range i)++[(i:Int)]=fI (List.range (i+1)):=by rw [List.range_succ];simp [fI]
section
variable {d:ai} {y:gF.B}
theorem RX(h:Wf d){i:Nat}(hi:i<d.1.length){f:List Int}{nn:Int}
  (next:LX G 177 gF Tryz.f177 qS (aP Tryz.prog 177 0) ((d.1,(nn,((IntKind.wrap .i64 ((i:Int)+1)),()))),((),(f,(gK (d.1.take (i+1)) 0,()))))=some y):∀(n j:Nat) (es:List (ab×Int)),j+n=d.1[i].2.1.length→es=gK (d.1.take i) 0++(d.1[i].2.1.take j).map (fun x=>(x,(i:Int))) →
  LX G 177 gF Tryz.f177 uh (aP Tryz.prog 177 1) (((i:Int),(d.1,(nn,((i:Int),(d.1[i].2.1,(((d.1[i].2.1.length:Nat):Int),((j:Int),()))))))),((),(f,(es,()))))=some y:=by
 have hr:=h.vT d.1[i] (List.getElem_mem hi)
 have et:d.1.take (i+1)=d.1.take i++[d.1[i]]:=(List.take_append_getElem hi).symm
 have ev:gK (d.1.take (i+1)) 0=gK (d.1.take i) 0++d.1[i].2.1.map (fun x=>(x,(i:Int))):=by
  rw [et,Hq]
  have:(d.1.take i).length=i:=by rw [List.length_take];omega
  rw [this,Nat.zero_add]
  congr 1
  show d.1[i].2.1.map (fun x=>(x,(i:Int)))++[]=_
  rw [List.append_nil]
 have nd:(aw (d.1.take i)++d.1[i].2.1).Nodup:=by
  have h1:=h.rw.n
  rw [←List.take_append_drop (i+1) d.1,et,nu,nu] at h1
  have e2:aw [d.1[i]]=d.1[i].2.1:=by rw [jB];exact List.append_nil _
  rw [e2] at h1
  exact (List.nodup_append.1 h1).1
 intro n
 induction n with
 | zero =>
  intro j es hj he
  refine ar (j:=1) (by kernel_rfl) ((J0 _ _ _).trans ?_)
  refine ag (decide_eq_false (show ¬((j:Int)<((d.1[i].2.1.length:Nat):Int)) by omega)) ?_
  have e:d.1[i].2.1.take j=d.1[i].2.1:=List.take_of_length_le (by omega)
  rw [e,←ev] at he
  subst he
  exact next
 | succ n ih =>
  intro j es hj he
  have aG:j<d.1[i].2.1.length:=by omega
  refine ar (j:=1) (by kernel_rfl) ((J0 _ _ _).trans ?_)
  refine ae (aT aG) (aa (aK (List.getElem?_eq_getElem aG)) ?_)
  have BA:d.1[i].2.1[j]∉es.map (·.1):=by
   have e3:((d.1[i].2.1.take j).map fun x=>(x,(i:Int))).map (·.1)=d.1[i].2.1.take j:=by rw [List.map_map];exact List.map_id _
   rw [he,List.map_append,vX,e3,List.mem_append]
   rintro (k | k)
   ·exact (List.nodup_append.1 nd).2.2 _ k _ (List.getElem_mem aG) rfl
   ·obtain ⟨q,hq,he⟩:=List.getElem_of_mem k
    have hq1:q<j:=by rw [List.length_take] at hq;omega
    rw [List.getElem_take] at he
    have:=(List.getElem_inj (List.nodup_append.1 nd).2.1).1 he
    omega
  have:=ih (j+1) (lM bm d.1[i].2.1[j] (i:Int) es) (by omega) (by
   rw [P1 _ BA,he,←List.take_append_getElem aG,List.map_append,List.append_assoc];rfl)
  rw [←aI aG (by omega)] at this
  exact this
theorem RY(h:Wf d)
  (next:LX G 177 gF Tryz.f177 ot (aP Tryz.prog 177 2) ((gK d.1 0,()),((),(fI (List.range d.1.length),((none,gK d.1 0),()))))=some y):∀(n i:Nat),i+n=d.1.length →
  LX G 177 gF Tryz.f177 qS (aP Tryz.prog 177 0) ((d.1,(((d.1.length:Nat):Int),((i:Int),()))),((),(fI (List.range i),(gK (d.1.take i) 0,()))))=some y:=by
 have hn:=h.nv
 intro n
 induction n with
 | zero =>
  intro i hi
  have e:i=d.1.length:=by omega
  subst e
  refine ar (j:=0) (by kernel_rfl) ((JZ _ _ _).trans ?_)
  refine ag (decide_eq_false (show ¬(((d.1.length:Nat):Int)<((d.1.length:Nat):Int)) by omega)) ?_
  rw [List.take_length]
  exact next
 | succ n ih =>
  intro i hi
  have aG:i<d.1.length:=by omega
  refine ar (j:=0) (by kernel_rfl) ((JZ _ _ _).trans ?_)
  refine ae (aT aG) (aa (aK (List.getElem?_eq_getElem aG)) ?_)
  refine ae (fits (by show (fI (List.range i)).length+1≤_;rw [Bb];simp;omega)) ?_
  have nx:=ih (i+1) (by omega)
  rw [←aI aG (by omega),←P2] at nx
  exact RX (G:=G) h aG nx d.1[i].2.1.length 0 _ (by omega) (by simp)
end
end Go.Vs
namespace Go.Vs
open Go.Proofs
variable {G:(f:FuncId)→(g:aJ)→Option (g.A→Option g.B)}
theorem Bf(a b:Nat):Be a b a=min a b∧Be a b b=min a b:=by
 unfold Be
 constructor<;>split<;>omega
structure Zv(d:ai)(rem:List (ab×Int))(g:List Nat):Prop where
 f:Fo g
 n:g.length=d.1.length
 c:∀i,i<d.1.length→cV d (cz d i) (cz d (root g i))
 p:∀(z:ab) (i k:Nat),(z,(i:Int))∈gK d.1 0→(aq z,(k:Int))∈gK d.1 0→(z,(i:Int))∉rem→root g i=root g k
theorem uI{d:ai}(h:Wf d){z:ab}{a:Int}(hm:(z,a)∈gK d.1 0):∃i:Nat,i<d.1.length∧a=(i:Int)∧z∈aw d.1∧cr d z=some (cz d i):=by
 obtain ⟨k,v,h1,h2,h3⟩:=Hr hm
 rw [Nat.zero_add] at h2
 have hv:=List.mem_of_getElem? h1
 refine ⟨k,(List.getElem?_eq_some_iff.1 h1).1,h2,bD.2 ⟨v,hv,h3⟩,?_⟩
 rw [mi h1]
 exact mG h.rw hv h3
theorem Jh{d:ai}(h:Wf d){z:ab}(hz:z∈aw d.1):∃i:Nat,(z,(i:Int))∈gK d.1 0:=by
 obtain ⟨v,hv,hx⟩:=bD.1 hz
 obtain ⟨k,hk⟩:=List.getElem?_of_mem hv
 have:=Kp (i:=0) hk hx
 rw [Nat.zero_add] at this
 exact ⟨k,this⟩
theorem Kq{d:ai}(h:Wf d){z:ab}{a:Int}(hm:(z,a)∈gK d.1 0):iD bm z (gK d.1 0)=some a:=by
 rw [P0]
 refine Ho ?_ hm
 rw [vX];exact h.rw.n
theorem Zv.same{d:ai}(h:Wf d){g:List Nat}(hg:Zv d [] g){a b:ID}(k:cV d a b):∀i j,i<d.1.length→j<d.1.length→cz d i=a→cz d j=b→root g i=root g j:=by
 induction k with
 | refl=>intro i j hi hj h1 h2;rw [iX h.sv hi hj (h1.trans h2.symm)]
 | tail _ s ih =>
  intro i j hi hj h1 h2
  obtain ⟨z,hz,s1,s2⟩:=s
  obtain ⟨m,hm⟩:=Jh h hz
  obtain ⟨q,hq⟩:=Jh h (h.other hz)
  obtain ⟨m',m1,m2,_,m3⟩:=uI h hm
  obtain ⟨q',q1,q2,_,q3⟩:=uI h hq
  have em:m'=m:=by omega
  have eq:q'=q:=by omega
  subst em;subst eq
  rw [s1] at m3;rw [s2] at q3
  have r1:=ih i m' hi m1 h1 (Option.some.inj m3).symm
  have r2:=hg.p z m' q' hm hq (by simp)
  have ej:q'=j:=iX h.sv q1 hj ((Option.some.inj q3).symm.trans h2.symm)
  rw [r1,r2,ej]
theorem Zv.can{d:ai}(h:Wf d){g:List Nat}(hg:Zv d [] g):Hh d (fI ((List.range d.1.length).map (root g))):=by
 have mw:∀i,i<d.1.length→(fI ((List.range d.1.length).map (root g))).getD i 0=((root g i:Nat):Int):=fun i hi=>by
  unfold fI;simp [List.getD,hi]
 refine ⟨⟨by rw [Bb];simp,fun i hi=>⟨root g i,Ko g i,mw i hi,hg.c i hi⟩⟩,fun i hi j hj k => ?_⟩
 rw [mw i hi,hg.same h k i j hi hj rfl rfl]
 have:=Ko g j
 omega
theorem RZ(hG:HG G){d:ai}(h:Wf d){g:List Nat}:∀(n i:Nat) (g':List Nat),i+n=d.1.length→Fo g'→g'.length=d.1.length→(∀j,root g' j=root g j) →
  LX G 177 gF Tryz.f177 ui (aP Tryz.prog 177 3) ((((d.1.length:Nat):Int),((i:Int),())),((),(fI g',(fI ((List.range i).map (root g)),()))))=some ((fI ((List.range d.1.length).map (root g)),()),()):=by
 have QN:=h.nv
 intro n
 induction n with
 | zero =>
  intro i g' hi h1 h2 h3
  have e:i=d.1.length:=by omega
  subst e
  refine ar (j:=3) (by kernel_rfl) ((J2 _ _ _).trans ?_)
  exact ag (decide_eq_false (show ¬(((d.1.length:Nat):Int)<((d.1.length:Nat):Int)) by omega)) rfl
 | succ n ih =>
  intro i g' hi h1 h2 h3
  have aG:i<d.1.length:=by omega
  obtain ⟨g2,s,e⟩:=PZ hG g' i h1 (by omega)
  refine ar (j:=3) (by kernel_rfl) ((J2 _ _ _).trans ?_)
  refine ae (aT aG) (aa e ?_)
  refine ae (fits (by show (fI _).length+1≤_;rw [Bb];simp;omega)) ?_
  have:=ih (i+1) g2 (by omega) s.f (by rw [s.n,h2]) (fun j=>(s.r j).trans (h3 j))
  have e2:fI ((List.range (i+1)).map (root g))=fI ((List.range i).map (root g))++[((root g' i:Nat):Int)]:=by
   rw [List.range_succ,h3 i];simp [fI]
  rw [e2,←aI aG (by omega)] at this
  exact this
theorem R1(hG:HG G){d:ai}(h:Wf d):∀(n:Nat) (rem:List (ab×Int)) (g:List Nat) (o:Option (ab×Int)),rem.length=n→(∀e∈rem,e∈gK d.1 0)→Zv d rem g →
  LX G 177 gF Tryz.f177 ot (aP Tryz.prog 177 2) ((gK d.1 0,()),((),(fI g,((o,rem),()))))=some ((labels d,()),()):=by
 intro n
 induction n with
 | zero =>
  intro rem g o hn hr hg
  have e:rem=[]:=List.eq_nil_of_length_eq_zero hn
  subst e
  refine ar (j:=2) (by kernel_rfl) ((J1 _ _ _).trans ?_)
  refine ae rfl ?_
  have:=RZ (G:=G) hG h (g:=g) d.1.length 0 g (by omega) hg.f hg.n (fun _=>rfl)
  rw [(hg.can h).uniq h (hY h)] at this
  have e2:((fI g).length:Int)=((d.1.length:Nat):Int):=by rw [Bb,hg.n]
  rw [←e2] at this
  exact this
 | succ n ih =>
  intro rem g o hn hr hg
  refine ar (j:=2) (by kernel_rfl) ((J1 _ _ _).trans ?_)
  refine ag (show rem.isEmpty=false by cases rem with | nil=>simp at hn | cons _ _=>rfl) ?_
  refine l8 (show 0<rem.length by omega) fun j hj => ?_
  have hj':j<rem.length:=hj
  refine aa (List.getElem?_eq_getElem hj') ?_
  have hm:=hr _ (List.getElem_mem hj')
  generalize he:rem[j]=e at hm
  obtain ⟨z,a⟩:=e
  obtain ⟨i,hi,ha,hz,haz⟩:=uI h hm
  subst ha
  obtain ⟨k,hk⟩:=Jh h (h.other hz)
  obtain ⟨k',uO,ek,_,hak⟩:=uI h hk
  have ek':k'=k:=by omega
  subst ek'
  refine aa (G1 (hG _ _ rfl) z (h.side hz)) ?_
  have mw:iD bm (aq z) (gK d.1 0)=some (k':Int):=Kq h hk
  refine ae (show (iD bm (aq z) (gK d.1 0)).isSome=true by rw [mw];rfl) ?_
  obtain ⟨g',h1,h2,h3,h4⟩:=Zu hG g i k' hg.f (by rw [hg.n];exact hi) (by rw [hg.n];exact uO)
  refine aa (a:=((),(fI g',()))) (by
   have:(iD bm (aq z) (gK d.1 0)).getD (0:Int)=(k':Int):=by rw [mw];rfl
   rw [←this] at h4
   exact h4) ?_
  have aeR:I4 d (cz d i) (cz d k'):=⟨z,hz,haz,hak⟩
  have cij:cV d (cz d (root g i)) (cz d (root g k')):=((hg.c i hi).symm h).trans (aeR.conn.trans (hg.c k' uO))
  refine ih (rem.eraseIdx j) g' _ (by rw [List.length_eraseIdx,if_pos hj'];omega) (fun e he=>hr e (List.mem_of_mem_eraseIdx he)) ⟨h1,h2.trans hg.n,fun q hq => ?_,fun y p q hp hq hy => ?_⟩
  ·rw [h3 q]
   unfold Be
   split
   ·rename_i e
    refine (hg.c q hq).trans ?_
    rw [e]
    rcases Nat.le_total (root g i) (root g k') with hle | hle
    ·rw [Nat.max_eq_right hle,Nat.min_eq_left hle];exact cij.symm h
    ·rw [Nat.max_eq_left hle,Nat.min_eq_right hle];exact cij
   ·exact hg.c q hq
  ·rw [h3 p,h3 q]
   by_cases lK:(y,(p:Int))∈rem
   ·
    have e:(y,(p:Int))=(z,(i:Int)):=by
     apply Classical.byContradiction
     intro ne
     apply hy
     rw [List.mem_eraseIdx_iff_getElem]
     obtain ⟨t,ht,U8⟩:=List.getElem_of_mem lK
     refine ⟨t,ht,fun k => ?_,U8⟩
     subst k
     exact ne (U8.symm.trans he)
    have e1:y=z:=congrArg Prod.fst e
    have e2:p=i:=by have:=congrArg Prod.snd e;simp at this;omega
    subst e1;subst e2
    have h5:=Kq h hq
    rw [mw] at h5
    have e3:q=k':=by have:=Option.some.inj h5;omega
    subst e3
    rw [(Bf _ _).1,(Bf _ _).2]
   ·rw [hg.p y p q hp hq lK]
theorem Ji(n:Nat):∀i,root (List.range n) i=i:=fun i=>by
 cases h:(List.range n)[i]? with
 | none=>exact kQ h
 | some x =>
  have:x=i:=by rw [List.getElem?_range (by have:=(List.getElem?_eq_some_iff.1 h).1;simpa using this)] at h;exact (Option.some.inj h).symm
  subst this
  exact kR h
theorem Zw(hG:HG G)(d:ai)(h:Wf d):FX G 177 gF ((d,()),())=some ((labels d,()),()):=by
 refine au (fn:=Tryz.f177) (hG _ _ rfl) (by kernel_rfl) (by kernel_rfl) ((X7 _ _ _).trans ?_)
 refine RY (G:=G) h ?_ d.1.length 0 (by omega)
 refine R1 hG h _ (gK d.1 0) (List.range d.1.length) none rfl (fun _ k=>k) ⟨fun i x hx => ?_,by simp,fun i hi => ?_,fun z i k h1 h2 h3=>absurd h1 h3⟩
 ·have:=(List.getElem?_eq_some_iff.1 hx).1
  rw [List.getElem?_range (by simpa using this)] at hx
  have:=Option.some.inj hx;omega
 ·rw [Ji];exact .refl _
end Go.Vs
namespace Go.Vs
open Go.Proofs
variable {G:(f:FuncId)→(g:aJ)→Option (g.A→Option g.B)}
structure PG(G:(f:FuncId)→(g:aJ)→Option (g.A→Option g.B)):Prop where
 h:HG G
 f:∀d,Wf d→FX G 166 wR ((d,()),())=some ((dH d,()),())
 c:∀d,Wf d→FX G 167 wS ((d,()),())=some ((fO d,()),())
theorem Zx(hp:PG G)(d:ai)(h:Wf d):FX G 153 Gc ((d,()),())=some ((((d.1.length:Nat):Int),(((d.2.length:Nat):Int),(((ft d:Nat):Int),(fO d,())))),()):=by
 have hn:=h.nv
 have hf:=uH h
 have ha:al d.1≤d.1.length:=List.countP_le_length
 refine au (fn:=Tryz.f153) (hp.h _ _ rfl) (by kernel_rfl) (by kernel_rfl) ((X0 _ _ _).trans ?_)
 refine aa (PX hp.h d.1 (by omega)) ?_
 refine aa (hp.f d h) (aa (hp.c d h) ?_)
 have e:IntKind.wrap .i64 ((((dH d).length:Nat):Int)+((al d.1:Nat):Int))=((ft d:Nat):Int):=by
  rw [wrap_small (by omega) (by omega)];rfl
 exact congrArg (fun n:Int=>some ((((d.1.length:Nat):Int),(((d.2.length:Nat):Int),(n,(fO d,())))),())) e
theorem Zy(hp:PG G)(d:ai)(h:Wf d):FX G 136 F8 ((d,()),())=some ((iU d,()),()):=by
 have hn:=h.nv;have bh:=h.ne
 have hf:=uH h
 have ha:al d.1≤d.1.length:=List.countP_le_length
 refine au (fn:=Tryz.f136) (hp.h _ _ rfl) (by kernel_rfl) (by kernel_rfl) ((XP _ _ _).trans ?_)
 refine aa (Zx hp d h) (ag rfl ?_)
 have hr:=w6 h (hY h)
 obtain ⟨k,e1,e2⟩:=PT h hr
 have ec:=vV h
 have NF:(kq d (labels d)).length≤d.1.length:=by
  unfold kq
  rw [List.length_map]
  refine Nat.le_trans (List.length_filter_le _ _) ?_
  simp
 have WY:ft d≤80+d.1.length:=by unfold ft;omega
 refine congrArg (fun n:Int=>some ((n,()),())) ?_
 show IntKind.wrap .i64 (fO d - IntKind.wrap .i64 (Int.tdiv (IntKind.wrap .i64 ((IntKind.wrap .i64 (((d.1.length:Nat):Int) - ((d.2.length:Nat):Int)))+((ft d:Nat):Int))) 2))=iU d
 rw [e1,ec]
 have hk:(k:Int)≤1000:=by omega
 rw [wrap_small (n:=((d.1.length:Nat):Int) - ((d.2.length:Nat):Int)) (by omega) (by omega)]
 rw [wrap_small (n:=((d.1.length:Nat):Int) - ((d.2.length:Nat):Int)+((ft d:Nat):Int)) (by omega) (by omega)]
 have e3:((d.1.length:Nat):Int) - ((d.2.length:Nat):Int)+((ft d:Nat):Int)=2 * ((((kq d (labels d)).length:Nat):Int) - (k:Int)):=by omega
 rw [e3,Int.mul_tdiv_cancel_left _ (by decide)]
 rw [wrap_small (n:=(((kq d (labels d)).length:Nat):Int) - (k:Int)) (by omega) (by omega)]
 rw [wrap_small (by omega) (by omega)]
 omega
theorem R3(hp:PG G):Jc G:=fun d h=>by
 refine au (fn:=Tryz.f114) (hp.h _ _ rfl) (by kernel_rfl) (by kernel_rfl) ((Xy _ _ _).trans ?_)
 refine aa (Zy hp d h) ?_
 refine congrArg (fun b:Bool=>some ((b,()),())) ?_
 show (iU d==0)=decide (iU d=0)
 rw [Bool.eq_iff_iff];simp
end Go.Vs
