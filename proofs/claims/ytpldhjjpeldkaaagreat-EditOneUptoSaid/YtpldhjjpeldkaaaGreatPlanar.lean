/- What the program computes of faces, parts and whether a diagram lies in the plane. -/
import Derived.Test.YtpldhjjpeldkaaaGreatSplits
import Derived.Test.YtpldhjjpeldkaaaGreatEuler
set_option linter.unusedVariables false
set_option linter.unusedSimpArgs false
namespace Go.Vs
open Go.Proofs
variable {G:(f:FuncId)→(g:aL)→Option (g.A→Option g.B)}
theorem Jk(w:ai)(r:List ai)(x:ID):aV (w::r) x=if w.1=x then some w else aV r x:=by
 unfold aV;rw [List.find?_cons];by_cases h:w.1=x<;>simp [h]
theorem Qk(hG:HG G)(l:List ai)(x:ID)(hl:l.length≤1073741824):FX G 151149 j0 ((l,x,()),())=some (oF zV (aV l x),()):=by
 refine aw (fn:=Tryz.f149) (hG _ _ rfl) (by kernel_rfl) (by kernel_rfl) ((O9 _ _ _).trans ?_)
 have loop:∀(n i:Nat),i+n=l.length→LX G 151149 j0 Tryz.f149 lz (aM Tryz.prog 149 0) ((l,(((l.length:Nat):Int),((i:Int),()))),(((x,()),(((0:Int),((0:Int),(([]:List ae),(e0,((0:Int),()))))),())),()))=some (oF zV (aV (l.drop i) x),()):=by
  intro n
  induction n with
  | zero =>
   intro i hi
   refine ar (j:=0) (by kernel_rfl) ((AK _ _ _).trans ?_)
   refine ag (decide_eq_false (show ¬((i:Int)<((l.length:Nat):Int)) by omega)) ?_
   rw [List.drop_eq_nil_of_le (by omega)];rfl
  | succ n ih =>
   intro i hi
   have aJ:i<l.length:=by omega
   have ae1:FX G 150 Gi ((l[i],()),())=some ((l[i].1,()),()):=aw (fn:=Tryz.f150) (hG _ _ rfl) (by kernel_rfl) (by kernel_rfl) (Yh _ _ _)
   refine ar (j:=0) (by kernel_rfl) ((AK _ _ _).trans ?_)
   refine af (aT aJ) (aa (az (List.getElem?_eq_getElem aJ)) ?_)
   refine aa ae1 ?_
   rw [List.drop_eq_getElem_cons aJ,Jk]
   by_cases he:l[i].1=x
   ·rw [if_pos he]
    exact af ((iZ l[i].1 x).trans (decide_eq_true he)) rfl
   ·rw [if_neg he]
    refine ag ((iZ l[i].1 x).trans (decide_eq_false he)) ?_
    have:=ih (i+1) (by omega)
    rw [←aH aJ hl] at this
    exact this
 have:=loop l.length 0 (by omega)
 rw [List.drop_zero] at this
 exact this
theorem ZA(hG:HG G)(d:aj)(x:ID)(hs:Sm d):FX G 131 Gf ((d,x,()),())=some (oF zV (bm d x),()):=by
 have hv:=hs.v
 refine aw (fn:=Tryz.f131) (hG _ _ rfl) (by kernel_rfl) (by kernel_rfl) ((X4 _ _ _).trans ?_)
 refine aa (Qk hG d.1 x (by omega)) ?_
 unfold bm
 cases hf:aV d.1 x with
 | none=>exact aa (Ve (hG _ _ rfl) [] (by simp)) rfl
 | some v=>exact aa (Ve (hG _ _ rfl) v.2.1 (hs.r v (fY hf))) rfl
theorem Ql(w:ai)(r:List ai)(x:ae):GK (w::r) x=if x∈w.2.1 then some w.1 else GK r x:=by
 unfold GK;rw [List.find?_cons];by_cases h:x∈w.2.1<;>simp [h]
theorem TW(hG:HG G)(d:aj)(x:ae)(hs:Sm d):FX G 151 uk ((d,x,()),())=some (oF zI (ct d x),()):=by
 have hv:=hs.v
 refine aw (fn:=Tryz.f151) (hG _ _ rfl) (by kernel_rfl) (by kernel_rfl) ((Yi _ _ _).trans ?_)
 have loop:∀(n i:Nat),i+n=d.1.length→LX G 151 uk Tryz.f151 uA (aM Tryz.prog 151 0) ((d.1,(((d.1.length:Nat):Int),((i:Int),()))),(((x,()),((zI,()),())),()))=some (oF zI (GK (d.1.drop i) x),()):=by
  intro n
  induction n with
  | zero =>
   intro i hi
   refine ar (j:=0) (by kernel_rfl) ((J8 _ _ _).trans ?_)
   refine ag (decide_eq_false (show ¬((i:Int)<((d.1.length:Nat):Int)) by omega)) ?_
   rw [List.drop_eq_nil_of_le (by omega)];rfl
  | succ n ih =>
   intro i hi
   have aJ:i<d.1.length:=by omega
   refine ar (j:=0) (by kernel_rfl) ((J8 _ _ _).trans ?_)
   refine af (aT aJ) (aa (az (List.getElem?_eq_getElem aJ)) ?_)
   refine aa (C3 hG d.1[i].2.1 x (by have:=hs.r _ (List.getElem_mem aJ);omega)) ?_
   rw [List.drop_eq_getElem_cons aJ,Ql]
   by_cases he:x∈d.1[i].2.1
   ·rw [if_pos he]
    exact af (decide_eq_true he) rfl
   ·rw [if_neg he]
    refine ag (decide_eq_false he) ?_
    have:=ih (i+1) (by omega)
    rw [←aH aJ (by omega)] at this
    exact this
 have:=loop d.1.length 0 (by omega)
 rw [List.drop_zero] at this
 exact this
def Jl(x:ae):List an→Int→Int
 | [],_ => -1
 | g::r,i=>if g.1=x then i else Jl x r (i+1)
theorem Hs(x:ae):∀(l:List an) (i:Nat),(Jl x l i = -1∧fN l x=none)∨∃k g,Jl x l (i:Int)=((i+k:Nat):Int)∧l[k]? = some g∧fN l x=some g.2
 | [],i=>.inl ⟨rfl,rfl⟩
 | g::r,i=>by
  rw [Jl,oL]
  by_cases h:g.1=x
  ·rw [if_pos h,if_pos h]
   exact .inr ⟨0,g,by simp,by simp,rfl⟩
  ·rw [if_neg h,if_neg h]
   have e:(i:Int)+1=((i+1:Nat):Int):=by omega
   rw [e]
   rcases Hs x r (i+1) with ⟨h1,h2⟩ | ⟨k,q,h1,h2,h3⟩
   ·exact .inl ⟨h1,h2⟩
   ·exact .inr ⟨k+1,q,by rw [h1];congr 1;omega,by simpa using h2,h3⟩
theorem Qm(hG:HG G)(l:List an)(x:ae)(hl:l.length≤1073741824):FX G 164162 iU ((l,()),((x,()),()))=some ((Jl x l 0,()),((x,()),())):=by
 refine aw (fn:=Tryz.f162) (hG _ _ rfl) (by kernel_rfl) (by kernel_rfl) ((Pc _ _ _).trans ?_)
 have loop:∀(n i:Nat),i+n=l.length→LX G 164162 iU Tryz.f162 jx (aM Tryz.prog 162 0) ((l,(((l.length:Nat):Int),((i:Int),()))),(((x,()),()),()))=some ((Jl x (l.drop i) i,()),((x,()),())):=by
  intro n
  induction n with
  | zero =>
   intro i hi
   refine ar (j:=0) (by kernel_rfl) ((AM _ _ _).trans ?_)
   refine ag (decide_eq_false (show ¬((i:Int)<((l.length:Nat):Int)) by omega)) ?_
   rw [List.drop_eq_nil_of_le (by omega)];rfl
  | succ n ih =>
   intro i hi
   have aJ:i<l.length:=by omega
   have ae2:FX G 163 Gl ((l[i],()),((x.1.1,(x.1.2,(x.2,()))),()))=some (((((l[i].1.1.1==x.1.1)&&(l[i].1.1.2==x.1.2))&&(l[i].1.2==x.2)),()),((x.1.1,(x.1.2,(x.2,()))),())) :=
    aw (fn:=Tryz.f163) (hG _ _ rfl) (by kernel_rfl) (by kernel_rfl) (Yn _ _ _)
   refine ar (j:=0) (by kernel_rfl) ((AM _ _ _).trans ?_)
   refine af (aT aJ) (aa (az (List.getElem?_eq_getElem aJ)) ?_)
   refine aa ae2 ?_
   rw [List.drop_eq_getElem_cons aJ,Jl]
   by_cases he:l[i].1=x
   ·rw [if_pos he]
    exact af ((j6 l[i].1 x).trans (decide_eq_true he)) rfl
   ·rw [if_neg he]
    refine ag ((j6 l[i].1 x).trans (decide_eq_false he)) ?_
    have:=ih (i+1) (by omega)
    have e:=aH aJ hl
    show LX G 164162 iU Tryz.f162 jx (aM Tryz.prog 162 0) ((l,(((l.length:Nat):Int),(IntKind.wrap .i64 ((i:Int)+1),()))),(((x,()),()),()))=some ((Jl x (l.drop (i+1)) ((i+1:Nat):Int),()),((x,()),()))
    rw [e]
    exact this
 have:=loop l.length 0 (by omega)
 rw [List.drop_zero] at this
 exact this
theorem ZB(hG:HG G)(l:List an)(x:ae)(hl:l.length≤1073741824):FX G 152 Gj ((l,x,()),())=some (oF zD (fN l x),()):=by
 refine aw (fn:=Tryz.f152) (hG _ _ rfl) (by kernel_rfl) (by kernel_rfl) ((Yj _ _ _).trans ?_)
 refine aa (Qm hG l x hl) ?_
 rcases Hs x l 0 with ⟨h1,h2⟩ | ⟨k,g,h1,h2,h3⟩
 ·have h1:Jl x l 0 = -1:=h1
  rw [h2]
  exact af (decide_eq_true (show Jl x l 0<0 by omega)) rfl
 ·have h1:Jl x l 0=(k:Int):=by
   have:Jl x l ((0:Nat):Int)=Jl x l 0:=rfl
   rw [←this,h1];congr 1;omega
  rw [h3]
  refine ag (decide_eq_false (show ¬Jl x l 0<0 by omega)) ?_
  refine aa (show aS l (Jl x l 0)=some g by rw [h1];exact az h2) ?_
  rfl
theorem ZC(hG:HG G)(s:StateT)(x:ae)(hs:Sm s.1)(hg:s.2.length≤50000000):FX G 132 xe ((s,x,()),())=some ((resolve s x,()),()):=by
 refine aw (fn:=Tryz.f132) (hG _ _ rfl) (by kernel_rfl) (by kernel_rfl) ((X5 _ _ _).trans ?_)
 have hw:IntKind.wrap .i64 (((s.2.length:Nat):Int)+1)=((s.2.length+1:Nat):Int):=by rw [wrap_small (by omega) (by omega)];rfl
 have loop:∀(n i:Nat) (y:ae),i+n=s.2.length+1→LX G 132 xe Tryz.f132 uu (aM Tryz.prog 132 0) (((IntKind.wrap .i64 (((s.2.length:Nat):Int)+1)),((i:Int),())),(((s,()),((y,()),((zD,()),()))),()))=some ((res s.1 s.2 n y,()),()):=by
  intro n
  induction n with
  | zero =>
   intro i y hi
   refine ar (j:=0) (by kernel_rfl) ((J4 _ _ _).trans ?_)
   exact ag (decide_eq_false (show ¬((i:Int)<IntKind.wrap .i64 (((s.2.length:Nat):Int)+1)) by rw [hw];omega)) rfl
  | succ n ih =>
   intro i y hi
   refine ar (j:=0) (by kernel_rfl) ((J4 _ _ _).trans ?_)
   refine af (decide_eq_true (show ((i:Int)<IntKind.wrap .i64 (((s.2.length:Nat):Int)+1)) by rw [hw];omega)) ?_
   refine aa (TW hG s.1 y hs) ?_
   rw [res]
   have h1:(oF zI (ct s.1 y)).2.1=(ct s.1 y).isSome:=fW _ _
   cases ha:(ct s.1 y).isSome
   ·rw [if_neg (by simp)]
    refine ag (h1.trans ha) ?_
    refine aa (ZB hG s.2 y (by omega)) ?_
    cases hf:fN s.2 y with
    | none=>exact af rfl rfl
    | some z =>
     refine ag rfl ?_
     have:=ih (i+1) z (by omega)
     have e:IntKind.wrap .i64 ((i:Int)+1)=((i+1:Nat):Int):=by rw [wrap_small (by omega) (by omega)];rfl
     rw [←e] at this
     exact this
   ·rw [if_pos rfl]
    exact af (h1.trans ha) rfl
 exact loop (s.2.length+1) 0 x (by omega)
theorem ZD(hG:HG G)(s:StateT)(c:o8)(hs:Sm s.1)(hg:s.2.length≤50000000):FX G 112 Gc ((s,c,()),())=some (aZ s c,()):=by
 refine aw (fn:=Tryz.f112) (hG _ _ rfl) (by kernel_rfl) (by kernel_rfl) ((XQ _ _ _).trans ?_)
 refine aa (ZA hG s.1 c.1 hs) ?_
 unfold aZ
 cases hf:bm s.1 c.1 with
 | none=>exact af rfl rfl
 | some v =>
  refine ag rfl ?_
  refine aa (ZC hG s c.2 hs hg) ?_
  refine aa (C3 hG v.2.1 (resolve s c.2) (by have:=hs.r v (fY hf);omega)) ?_
  show _=some (((c.1,uL s c v),((0:Int),())),())
  unfold uL
  by_cases hm:resolve s c.2∈v.2.1
  ·rw [if_pos hm]
   exact aN (decide_eq_true hm) rfl
  ·rw [if_neg hm]
   exact aN (decide_eq_false hm) rfl
def Jm(G:(f:FuncId)→(g:aL)→Option (g.A→Option g.B)):Prop:=∀d,Wf d→FX G 114 Ae ((d,()),())=some ((decide (fP d=0),()),())
theorem Kz{l:List ai}{e:List ah}{c:o8}{v:ai}(hs:bV l)(hf:aV l c.1=some v)(x:ae):l.set (bD l c.1) (v.1,(lB v.2.1 c.2 x,v.2.2))=(bR (l,e) c x).1:=by
 rw [Ja hs (c4 hs hf)]
 have hi:=kb hf
 have hm:=fY hf
 unfold bR Vs.b6
 rw [←hi,jD (d:=(l,e)) hs hm]
theorem Bo{d:aj}(h:Wf d):ot d.1 d.2=true:=by
 unfold ot
 have h1:=h.nv;have h2:=h.ne
 simp only [Bool.and_eq_true,decide_eq_true_eq,List.all_eq_true]
 exact ⟨by omega,by omega,fun v hv=>by have:=h.tl v hv;omega⟩
theorem Ss(hG:HG G)(hp:Jm G)(o:bY):EM G o:=by
 intro s h hm ML
 have Rk:=h.d.nv;have bj:=h.d.ne;have hn:=h.n
 have So:=h.d.small
 have bO:=PW hm
 have start:∀(e:Int) (w:aE),bW 92 ng Tryz.f92 (FX G) (LX G 92 ng Tryz.f92) ((o,()),(aI s,()))=some ((e,()),(w,()))→FX G 92 ng ((o,()),(aI s,()))=some ((e,()),(w,())):=fun e w a =>
  aw (fn:=Tryz.f92) (hG _ _ rfl) (by kernel_rfl) (by kernel_rfl) a
 have f110:=TP hG (aI s) (aY o) h.d.se (by show s.1.2.length≤_;omega)
 unfold qt
 cases hf:(aW s.1.2 (aY o)).isSome with
 | true =>
  have e1:sq (aI s) (aY o)=(12,aI s):=if_pos hf
  rw [e1] at f110
  refine ⟨12,aI s,start _ _ ((UM _ _ _).trans (af (Bo h.d) (aa f110 (af rfl rfl)))),?_⟩
  rw [if_pos (show (gq s.1 (aY o)).isSome=true from hf)];rfl
 | false =>
 rw [if_neg (show ¬(gq s.1 (aY o)).isSome=true by show ¬(aW s.1.2 (aY o)).isSome=true;rw [hf];simp)]
 by_cases ZE:40≤s.1.2.length
 ·have e1:sq (aI s) (aY o)=(3,aI s):=(if_neg (show ¬(aW s.1.2 (aY o)).isSome=true by rw [hf];simp)).trans (if_pos ZE)
  rw [e1] at f110
  refine ⟨3,aI s,start _ _ ((UM _ _ _).trans (af (Bo h.d) (aa f110 (af rfl rfl)))),?_⟩
  rw [if_pos ZE];rfl
 rw [if_neg ZE]
 obtain ⟨E,hE⟩:∃E,E=dn (aY o,(e0,0)) s.1.2:=⟨_,rfl⟩
 have e1:sq (aI s) (aY o)=(0,(s.1.1,(E,(s.2,())))):=by rw [hE];exact (if_neg (show ¬(aW s.1.2 (aY o)).isSome=true by rw [hf];simp)).trans (if_neg ZE)
 rw [e1] at f110
 obtain ⟨x,hx⟩:∃x:ae,x=(aY o,0):=⟨_,rfl⟩
 obtain ⟨y,hy⟩:∃y:ae,y=(aY o,1):=⟨_,rfl⟩
 have f111:FX G 111 Ac ((aY o,()),())=some ((x,y,()),()):=by
  rw [hx,hy];exact aw (fn:=Tryz.f111) (hG _ _ rfl) (by kernel_rfl) (by kernel_rfl) (Ty _ _ _)
 have f112:=fun c:o8=>ZD hG s c h.d.sm (by omega)
 have go:∀(e:Int) (w:aE),LX G 92 ng Tryz.f92 ly (aM Tryz.prog 92 0) (((2:Int),((0:Int),())),(((s.1.1,(E,(s.2,()))),((s,()),((x,()),()))),([x,y],([oA o,oB o],()))))=some ((e,()),(w,()))→FX G 92 ng ((o,()),(aI s,()))=some ((e,()),(w,())):=fun e w a =>
  start _ _ ((UM _ _ _).trans (af (Bo h.d) (aa f110 (ag rfl (aa f111 a)))))
 by_cases hA:(aZ s (oA o)).2.1=0
 case neg =>
  rw [if_pos hA]
  have ae3:aZ s (oA o)=(zC,(13,())):=by
   unfold aZ at hA ⊢
   cases hv:bm s.1 (oA o).1 with
   | none=>rfl
   | some v=>rw [hv] at hA;exact absurd rfl hA
  refine ⟨13,(s.1.1,(E,(s.2,()))),go _ _ ?_,rfl⟩
  refine ar (j:=0) (by kernel_rfl) ((vU _ _ _).trans ?_)
  refine af rfl (af rfl (aa (a:=oA o) rfl (aa (f112 (oA o)) ?_)))
  rw [ae3]
  exact af rfl rfl
 rw [if_neg (fun k=>k hA)]
 obtain ⟨va,ca⟩:=oM hA
 obtain ⟨cA,hcA⟩:∃c:o8,c=(aZ s (oA o)).1:=⟨_,rfl⟩
 have eA:aZ s (oA o)=(cA,(0,())):=by
  rw [hcA]
  have:(aZ s (oA o)).2=(0,()):=by
   have h1:(aZ s (oA o)).2=((aZ s (oA o)).2.1,()):=rfl
   rw [h1,hA]
  rw [←this]
 have cAv:(aV s.1.1 cA.1).isSome=true:=by rw [hcA,ca];exact va
 obtain ⟨v1,tP⟩:=Option.isSome_iff_exists.1 cAv
 have Vt:=fY tP
 obtain ⟨d1,Mb⟩:∃d1:aj,d1=bR (s.1.1,E) cA x:=⟨_,rfl⟩
 have ae5:s.1.1.set (bD s.1.1 cA.1) (v1.1,(lB v1.2.1 cA.2 x,v1.2.2))=d1.1:=by rw [Mb];exact Kz h.d.sv tP x
 have TX:bV d1.1:=by rw [Mb];exact h.d.sv.re _ _
 have hl1:=(List.getElem?_eq_some_iff.1 (c4 h.d.sv tP)).1
 have TY:∀v∈d1.1,v.2.1.length≤50000000:=fun v hv=>by
  rw [Mb] at hv
  obtain ⟨w,hw,rfl⟩:=List.mem_map.1 (show v∈s.1.1.map (q8 cA.1 (lB (bJ (s.1.1,E) cA.1) cA.2 x)) from hv)
  have h1:=h.d.tl w hw
  unfold q8
  split
  ·have h2:=xk (bJ (s.1.1,E) cA.1) cA.2 x
   have h3:(bJ (s.1.1,E) cA.1).length≤80:=by
    rw [←kb tP,jD (d:=(s.1.1,E)) h.d.sv Vt]
    exact h.d.tl v1 Vt
   show (lB (bJ (s.1.1,E) cA.1) cA.2 x).length≤50000000
   omega
  ·omega
 have d1l:d1.1.length=s.1.1.length:=by rw [Mb];exact fQ _ _ _
 have TZ:∀(e:Int) (w:aE),LX G 92 ng Tryz.f92 ly (aM Tryz.prog 92 0) (((2:Int),((1:Int),())),(((d1.1,(E,(s.2,()))),((s,()),((x,()),()))),([x,y],([oA o,oB o],()))))=some ((e,()),(w,()))→FX G 92 ng ((o,()),(aI s,()))=some ((e,()),(w,())):=fun e w a=>by
  refine go _ _ ?_
  refine ar (j:=0) (by kernel_rfl) ((vU _ _ _).trans ?_)
  refine af rfl (af rfl (aa (a:=oA o) rfl (aa (f112 (oA o)) ?_)))
  rw [eA]
  refine ag rfl (ag rfl ?_)
  refine aa (oZ hG (s.1.1,(E,(s.2,()))) cA.1 h.d.sv So.n) ?_
  refine af (dx (eL _) (aT hl1)) (aa (c4 h.d.sv tP) ?_)
  refine af rfl (aa (a:=x) rfl ?_)
  refine aa (PU hG v1.2.1 cA.2 x (So.r v1 Vt)) ?_
  refine aa (c4 h.d.sv tP) ?_
  have key:∀a1:List ai,a1=d1.1→LX G 92 ng Tryz.f92 ly (aM Tryz.prog 92 0) (((2:Int),((1:Int),())),(((a1,(E,(s.2,()))),((s,()),((x,()),()))),([x,y],([oA o,oB o],()))))=some ((e,()),(w,())):=fun a1 Dn=>by subst Dn;exact a
  exact key _ ae5
 by_cases hB:(aZ s (oB o)).2.1=0
 case neg =>
  rw [if_pos hB]
  have ae6:aZ s (oB o)=(zC,(13,())):=by
   unfold aZ at hB ⊢
   cases hv:bm s.1 (oB o).1 with
   | none=>rfl
   | some v=>rw [hv] at hB;exact absurd rfl hB
  refine ⟨13,(d1.1,(E,(s.2,()))),TZ _ _ ?_,rfl⟩
  refine ar (j:=0) (by kernel_rfl) ((vU _ _ _).trans ?_)
  refine af rfl (af rfl (aa (a:=oB o) rfl (aa (f112 (oB o)) ?_)))
  rw [ae6]
  exact af rfl rfl
 rw [if_neg (fun k=>k hB)]
 obtain ⟨vb,cb⟩:=oM hB
 obtain ⟨cB,ZF⟩:∃c:o8,c=if (bm s.1 (oB o).1).isSome=true∧(oB o).2=(aY o,0) then oB o else (aZ s (oB o)).1:=⟨_,rfl⟩
 have eB:aZ s (oB o)=((aZ s (oB o)).1,(0,())):=by
  have:(aZ s (oB o)).2=(0,()):=by
   have h1:(aZ s (oB o)).2=((aZ s (oB o)).2.1,()):=rfl
   rw [h1,hB]
  rw [←this]
 have cB1:cB.1=(oB o).1:=by rw [ZF];split;rfl;exact cb
 have cBv:(aV d1.1 cB.1).isSome=true:=by
  rw [Mb]
  exact G5 _ (by rw [cB1];exact vb)
 obtain ⟨v2,wL⟩:=Option.isSome_iff_exists.1 cBv
 have ZG:=fY wL
 have rM:=(List.getElem?_eq_some_iff.1 (c4 TX wL)).1
 obtain ⟨d2,Ry⟩:∃d2:aj,d2=bR d1 cB y:=⟨_,rfl⟩
 have Su:d1.1.set (bD d1.1 cB.1) (v2.1,(lB v2.2.1 cB.2 y,v2.2.2))=d2.1:=by rw [Ry];exact Kz (e:=d1.2) TX wL y
 have T0:kt s o=d2:=by
  rw [Ry,Mb,hcA,ZF,hx,hy,hE];rfl
 have hE2:d2.2=E:=by rw [Ry,Mb];rfl
 have hwf:Wf d2:=by
  rw [←T0]
  unfold kt
  have hn0:aW s.1.2 (aY o)=none:=by simpa using hf
  refine h.d.link bO hn0 ZE (by rw [ca];exact va) ?_
  rw [←ZF,cB1];exact vb
 have last:∀(e:Int) (w:aE),LX G 92 ng Tryz.f92 ly (aM Tryz.prog 92 0) (((2:Int),((2:Int),())),(((d2.1,(E,(s.2,()))),((s,()),((x,()),()))),([x,y],([oA o,oB o],()))))=some ((e,()),(w,()))→FX G 92 ng ((o,()),(aI s,()))=some ((e,()),(w,())):=fun e w a=>by
  refine TZ _ _ ?_
  refine ar (j:=0) (by kernel_rfl) ((vU _ _ _).trans ?_)
  refine af rfl (af rfl (aa (a:=oB o) rfl (aa (f112 (oB o)) ?_)))
  rw [eB]
  have key:∀a2:List ai,a2=d2.1→LX G 92 ng Tryz.f92 ly (aM Tryz.prog 92 0) (((2:Int),((2:Int),())),(((a2,(E,(s.2,()))),((s,()),((x,()),()))),([x,y],([oA o,oB o],()))))=some ((e,()),(w,())):=fun a2 Ch=>by subst Ch;exact a
  refine ag rfl (af rfl ?_)
  have o5:=j6 (oB o).2 x
  by_cases Wl:(oB o).2=x
  ·have ecB:cB=oB o:=by rw [ZF];exact if_pos ⟨vb,Wl.trans hx⟩
   refine af (o5.trans (decide_eq_true Wl)) ?_
   rw [ecB] at wL rM Su
   refine aa (oZ hG (d1.1,(E,(s.2,()))) (oB o).1 TX (by show d1.1.length≤_;omega)) ?_
   refine af (dx (eL _) (aT rM)) (aa (c4 TX wL) ?_)
   refine af rfl (aa (a:=y) rfl ?_)
   refine aa (PU hG v2.2.1 (oB o).2 y (TY v2 ZG)) ?_
   refine aa (c4 TX wL) ?_
   exact key _ Su
  ·have ecB:cB=(aZ s (oB o)).1:=by rw [ZF];exact if_neg (fun k=>Wl (k.2.trans hx.symm))
   refine ag (o5.trans (decide_eq_false Wl)) ?_
   rw [ecB] at wL rM Su
   refine aa (oZ hG (d1.1,(E,(s.2,()))) (aZ s (oB o)).1.1 TX (by show d1.1.length≤_;omega)) ?_
   refine af (dx (eL _) (aT rM)) (aa (c4 TX wL) ?_)
   refine af rfl (aa (a:=y) rfl ?_)
   refine aa (PU hG v2.2.1 (aZ s (oB o)).1.2 y (TY v2 ZG)) ?_
   refine aa (c4 TX wL) ?_
   exact key _ Su
 have f114:=hp d2 hwf
 rw [T0]
 have e2:(d2.1,E)=d2:=by rw [←hE2]
 by_cases hg:fP d2=0
 ·rw [if_neg (fun k=>k hg)]
  refine ⟨0,(d2.1,(E,(s.2,()))),last _ _ ?_,?_⟩
  ·refine ar (j:=0) (by kernel_rfl) ((vU _ _ _).trans ?_)
   refine ag rfl ?_
   have key:∀q:aj,q=d2→((FX G 114 Ae ((q,()),())).bind fun (Gr:((Bool×Unit)×Unit))=>cond (not Gr.1.1) (some (((15:Int),()),((d2.1,(E,(s.2,()))),()))) (some (((0:Int),()),((d2.1,(E,(s.2,()))),()))))=some (((0:Int),()),((d2.1,(E,(s.2,()))),())):=fun q hq=>by
    subst hq
    exact aa f114 (aN (decide_eq_true hg) rfl)
   exact key _ e2
  ·show (Kq (d2.1,(E,(s.2,()))),((0:Int),()))=((d2,s.2),(0,()))
   show (((d2.1,E),s.2),((0:Int),()))=((d2,s.2),(0,()))
   rw [e2]
 ·rw [if_pos hg]
  refine ⟨15,(d2.1,(E,(s.2,()))),last _ _ ?_,rfl⟩
  refine ar (j:=0) (by kernel_rfl) ((vU _ _ _).trans ?_)
  refine ag rfl ?_
  have key:∀q:aj,q=d2→((FX G 114 Ae ((q,()),())).bind fun (Gr:((Bool×Unit)×Unit))=>cond (not Gr.1.1) (some (((15:Int),()),((d2.1,(E,(s.2,()))),()))) (some (((0:Int),()),((d2.1,(E,(s.2,()))),()))))=some (((15:Int),()),((d2.1,(E,(s.2,()))),())):=fun q hq=>by
   subst hq
   exact aa f114 (aN (decide_eq_false hg) rfl)
  exact key _ e2
end Go.Vs
namespace Go.Vs
open Go.Proofs
variable {G:(f:FuncId)→(g:aL)→Option (g.A→Option g.B)}
theorem ZH(hG:HG G)(row:List ae)(d:ae)(hl:row.length≤100000000):FX G 182 Gp ((row,d,()),())=some (GI (dw row d 1),()):=by
 refine aw (fn:=Tryz.f182) (hG _ _ rfl) (by kernel_rfl) (by kernel_rfl) ((Yv _ _ _).trans ?_)
 have key:FX G 157 Aj ((row,(d,((1:Int),()))),())=some (GI (dw row d 1),()):=by
  refine aw (fn:=Tryz.f157) (hG _ _ rfl) (by kernel_rfl) (by kernel_rfl) ((Tz _ _ _).trans ?_)
  refine aa (A1 (hG _ _ rfl) row d (by omega)) ?_
  unfold dw
  by_cases hd:d∈row
  ·rw [if_pos hd]
   obtain ⟨k,h1,h2,h3⟩:=eY hd
   have aJ:=(List.getElem?_eq_some_iff.1 h2).1
   refine ag (decide_eq_false (show ¬idx d row 0<0 by omega)) ?_
   refine ag (Ex hd) ?_
   have RR:IntKind.wrap .i64 (idx d row 0+1)=((k+1:Nat):Int):=by rw [h1,wrap_small (by omega) (by omega)];rfl
   have v5:(k+1) % row.length<row.length:=Nat.mod_lt _ (by omega)
   have hx:=List.getElem?_eq_getElem v5
   refine aa (show aS row (Int.tmod (IntKind.wrap .i64 (idx d row 0+1)) ((row.length:Nat):Int))=some row[(k+1) % row.length] by rw [RR,ql];exact az hx) ?_
   rw [h1,Int.toNat_natCast,hx];rfl
  ·rw [if_neg hd]
   exact af (decide_eq_true (dY.2 hd)) rfl
 refine aa key ?_
 rfl
def Ht(x:ae):List ai→Option ae
 | []=>none
 | v::r=>if x∈v.2.1 then dw v.2.1 x 1 else Ht x r
theorem KA{l:List ai}(h:Rw l){v:ai}{x:ae}(hv:v∈l)(hx:x∈v.2.1):∀r,(∀u∈r,u∈l)→v∈r→Ht x r=dw v.2.1 x 1
 | [],_,k=>by cases k
 | u::r,hs,k=>by
  rw [Ht]
  by_cases hu:x∈u.2.1
  ·rw [if_pos hu,h.one hv (hs u List.mem_cons_self) hx hu]
  ·rw [if_neg hu]
   rcases List.mem_cons.1 k with e | k
   ·rw [e] at hx;exact absurd hx hu
   ·exact KA h hv hx r (fun w hw=>hs w (List.mem_cons_of_mem _ hw)) k
theorem Dp{x:ae}:∀{l:List ai},x∉av l→Ht x l=none
 | [],_=>rfl
 | v::r,h=>by
  rw [ia,List.mem_append] at h
  rw [Ht,if_neg (fun k=>h (.inl k))]
  exact Dp fun k=>h (.inr k)
theorem Jn{d:aj}(h:Rw d.1)(x:ae):Ht x d.1=nr d x:=by
 by_cases hx:x∈av d.1
 ·obtain ⟨v,hv,kl⟩:=bz.1 hx
  rw [Bg h hv kl]
  exact KA h hv kl d.1 (fun _ k=>k) hv
 ·rw [Dp hx]
  unfold nr ct
  rw [G2 hx]
theorem ZI(hG:HG G)(d:aj)(x:ae)(hs:Sm d)(h:Rw d.1):FX G 179 xh ((d,x,()),())=some (GI (nr d x),()):=by
 have hv:=hs.v
 rw [←Jn h x]
 refine aw (fn:=Tryz.f179) (hG _ _ rfl) (by kernel_rfl) (by kernel_rfl) ((Ys _ _ _).trans ?_)
 have loop:∀(n i:Nat),i+n=d.1.length→LX G 179 xh Tryz.f179 uE (aM Tryz.prog 179 0) ((d.1,(((d.1.length:Nat):Int),((i:Int),()))),(((x,()),((zD,()),())),()))=some (GI (Ht x (d.1.drop i)),()):=by
  intro n
  induction n with
  | zero =>
   intro i hi
   refine ar (j:=0) (by kernel_rfl) ((Ke _ _ _).trans ?_)
   refine ag (decide_eq_false (show ¬((i:Int)<((d.1.length:Nat):Int)) by omega)) ?_
   rw [List.drop_eq_nil_of_le (by omega)];rfl
  | succ n ih =>
   intro i hi
   have aJ:i<d.1.length:=by omega
   refine ar (j:=0) (by kernel_rfl) ((Ke _ _ _).trans ?_)
   refine af (aT aJ) (aa (az (List.getElem?_eq_getElem aJ)) ?_)
   refine aa (ZH hG d.1[i].2.1 x (by have:=hs.r _ (List.getElem_mem aJ);omega)) ?_
   rw [List.drop_eq_getElem_cons aJ,Ht]
   by_cases he:x∈d.1[i].2.1
   ·rw [if_pos he]
    unfold dw
    rw [if_pos he]
    obtain ⟨k,h1,h2,h3⟩:=eY he
    have hl:=(List.getElem?_eq_some_iff.1 h2).1
    have hm:((idx x d.1[i].2.1 0).toNat+1) % d.1[i].2.1.length<d.1[i].2.1.length:=Nat.mod_lt _ (by omega)
    rw [List.getElem?_eq_getElem hm]
    exact af rfl rfl
   ·rw [if_neg he]
    unfold dw
    rw [if_neg he]
    refine ag rfl ?_
    have:=ih (i+1) (by omega)
    rw [←aH aJ (by omega)] at this
    exact this
 have:=loop d.1.length 0 (by omega)
 rw [List.drop_zero] at this
 exact this
theorem at_mem{d:aj}{x:ae}(h:(ct d x).isSome=true):x∈av d.1:=by
 apply Classical.byContradiction
 intro k
 unfold ct at h
 rw [G2 k] at h
 cases h
theorem ZJ(hG:HG G)(d:aj)(x:ae)(h:Wf d):FX G 176 CV ((d,x,()),())=some (GI (GM d x),()):=by
 have hs:=h.sm
 refine aw (fn:=Tryz.f176) (hG _ _ rfl) (by kernel_rfl) (by kernel_rfl) ((Yq _ _ _).trans ?_)
 refine aa (TW hG d x hs) ?_
 have h1:(oF zI (ct d x)).2.1=(ct d x).isSome:=fW _ _
 unfold GM
 cases ha:(ct d x).isSome
 ·rw [if_neg (by simp)]
  exact aN (h1.trans ha) rfl
 ·rw [if_pos rfl]
  refine aN (h1.trans ha) ?_
  refine aa (G9 (hG _ _ rfl) x (h.side (at_mem ha))) ?_
  exact aa (ZI hG d (au x) hs h.rw) rfl
theorem ZK(hG:HG G)(d:aj)(hs:Sm d):FX G 171 um ((d,()),())=some ((dZ d.2,()),()):=by
 have he:=hs.e
 refine aw (fn:=Tryz.f171) (hG _ _ rfl) (by kernel_rfl) (by kernel_rfl) ((Yp _ _ _).trans ?_)
 have loop:∀(n i:Nat) (out:List ae),i+n=d.2.length→out.length=2 * i→LX G 171 um Tryz.f171 uB (aM Tryz.prog 171 0) ((d.2,(((d.2.length:Nat):Int),((i:Int),()))),((),(out,())))=some ((out++dZ (d.2.drop i),()),()):=by
  intro n
  induction n with
  | zero =>
   intro i out hi ho
   refine ar (j:=0) (by kernel_rfl) ((J9 _ _ _).trans ?_)
   refine ag (decide_eq_false (show ¬((i:Int)<((d.2.length:Nat):Int)) by omega)) ?_
   rw [List.drop_eq_nil_of_le (by omega)]
   show some ((out,()),())=some ((out++[],()),())
   rw [List.append_nil]
  | succ n ih =>
   intro i out hi ho
   have aJ:i<d.2.length:=by omega
   refine ar (j:=0) (by kernel_rfl) ((J9 _ _ _).trans ?_)
   refine af (aT aJ) (aa (az (List.getElem?_eq_getElem aJ)) ?_)
   refine aa (G9 (hG _ _ rfl) (d.2[i].1,0) (.inl rfl)) ?_
   refine af (fits (by show out.length+2≤_;omega)) ?_
   have:=ih (i+1) (out++[(d.2[i].1,0),(d.2[i].1,1)]) (by omega) (by simp [ho];omega)
   rw [List.drop_eq_getElem_cons aJ]
   rw [←aH aJ (by omega),List.append_assoc] at this
   exact this
 exact loop d.2.length 0 [] (by omega) rfl
theorem Qn(hG:HG G)(l:List ai)(hl:l.length≤50000000):FX G 166164 j4 ((l,()),())=some ((((al l:Nat):Int),()),()):=by
 refine aw (fn:=Tryz.f164) (hG _ _ rfl) (by kernel_rfl) (by kernel_rfl) ((Pd _ _ _).trans ?_)
 have loop:∀(n i m:Nat),i+n=l.length→m≤i→LX G 166164 j4 Tryz.f164 jy (aM Tryz.prog 164 0) (((m:Int),(l,(((l.length:Nat):Int),((i:Int),())))),((),()))=some ((((m+al (l.drop i):Nat):Int),()),()):=by
  intro n
  induction n with
  | zero =>
   intro i m hi hm
   refine ar (j:=0) (by kernel_rfl) ((AO _ _ _).trans ?_)
   refine ag (decide_eq_false (show ¬((i:Int)<((l.length:Nat):Int)) by omega)) ?_
   rw [List.drop_eq_nil_of_le (by omega)];rfl
  | succ n ih =>
   intro i m hi hm
   have aJ:i<l.length:=by omega
   have ae8:FX G 165 Gm ((l[i],()),())=some ((l[i].2.1.isEmpty,()),()):=by
    refine aw (fn:=Tryz.f165) (hG _ _ rfl) (by kernel_rfl) (by kernel_rfl) ((Yo _ _ _).trans ?_)
    have:(((l[i].2.1.length:Nat):Int)==0)=l[i].2.1.isEmpty:=by cases l[i].2.1<;>simp;omega
    exact congrArg (fun b:Bool=>some ((b,()),())) this
   refine ar (j:=0) (by kernel_rfl) ((AO _ _ _).trans ?_)
   refine af (aT aJ) (aa (az (List.getElem?_eq_getElem aJ)) ?_)
   refine aa ae8 ?_
   rw [List.drop_eq_getElem_cons aJ]
   unfold al
   rw [List.countP_cons]
   cases hb:l[i].2.1.isEmpty
   ·refine ag rfl ?_
    have:=ih (i+1) m (by omega) (by omega)
    rw [←aH aJ (by omega)] at this
    exact this
   ·refine af rfl ?_
    have:=ih (i+1) (m+1) (by omega) (by omega)
    rw [←aH aJ (by omega),←aH (i:=m) (n:=l.length) (by omega) (by omega)] at this
    refine this.trans ?_
    refine congrArg (fun q:Nat=>some ((((q:Nat):Int),()),())) ?_
    unfold al
    simp;omega
 have:=loop l.length 0 0 (by omega) (by omega)
 rw [List.drop_zero,Nat.zero_add] at this
 exact this
end Go.Vs
namespace Go.Vs
open Go.Proofs
variable {G:(f:FuncId)→(g:aL)→Option (g.A→Option g.B)}
def Fo(g:List Nat):Prop:=∀(i x:Nat),g[i]? = some x→x≤i
def root(g:List Nat)(i:Nat):Nat :=
 match g[i]? with
 | some x=>if h:x<i then root g x else i
 | none=>i
termination_by i
theorem dp{g:List Nat}{i x:Nat}(h:g[i]? = some x):root g i=if x<i then root g x else i:=by
 rw [root,h];simp
theorem kO{g:List Nat}{i:Nat}(h:g[i]? = none):root g i=i:=by rw [root,h]
theorem KB(g:List Nat):∀i,root g i≤i:=by
 intro i
 induction i using Nat.strongRecOn with
 | _ i ih =>
  cases h:g[i]? with
  | none=>rw [kO h];exact Nat.le_refl _
  | some x =>
   rw [dp h]
   split
   ·rename_i hx;have:=ih x hx;omega
   ·exact Nat.le_refl _
theorem Hu{g:List Nat}(hf:Fo g):∀i,i<g.length→g[root g i]? = some (root g i):=by
 intro i
 induction i using Nat.strongRecOn with
 | _ i ih =>
  intro hi
  have h:=List.getElem?_eq_getElem hi
  rw [dp h]
  split
  ·rename_i hx;exact ih _ hx (by omega)
  ·have:=hf i _ h
   rw [h];congr 1;omega
theorem kP{g:List Nat}{i:Nat}(h:g[i]? = some i):root g i=i:=by rw [dp h,if_neg (by omega)]
theorem Fo.set{g:List Nat}(hf:Fo g){i y:Nat}(h:y≤i):Fo (g.set i y):=fun j x hj=>by
 rw [List.getElem?_set] at hj
 split at hj
 ·rename_i e;subst e
  split at hj
  ·cases hj;exact h
  ·cases hj
 ·exact hf j x hj
theorem Jo{g:List Nat}(hf:Fo g){i x y:Nat}(hi:g[i]? = some x)(hx:g[x]? = some y)(aJ:x<i):∀j,root (g.set i y) j=root g j:=by
 have hyx:=hf x y hx
 have mC:=(List.getElem?_eq_some_iff.1 hi).1
 intro j
 induction j using Nat.strongRecOn with
 | _ j ih =>
  by_cases e:j=i
  ·subst e
   have h1:(g.set j y)[j]? = some y:=by rw [List.getElem?_set];simp [mC]
   rw [dp h1,if_pos (by omega),ih y (by omega),dp hi,if_pos aJ,dp hx]
   split
   ·rfl
   ·have:y=x:=by omega
    subst this;exact kP hx
  ·have h1:(g.set i y)[j]? = g[j]? := by rw [List.getElem?_set,if_neg (fun k=>e k.symm)]
   cases h:g[j]? with
   | none=>rw [kO h,kO (h1.trans h)]
   | some z =>
    rw [dp h,dp (h1.trans h)]
    split
    ·rename_i hz;exact ih z hz
    ·rfl
theorem Mt{g:List Nat}{a b:Nat}(ha:g[a]? = some a)(hb:g[b]? = some b):∀j,root (g.set (max a b) (min a b)) j=if root g j=max a b then min a b else root g j:=by
 have hm:g[max a b]? = some (max a b):=by rcases Nat.le_total a b with h | h<;>simp [Nat.max_eq_right,Nat.max_eq_left,h,ha,hb]
 have hn:g[min a b]? = some (min a b):=by rcases Nat.le_total a b with h | h<;>simp [Nat.min_eq_right,Nat.min_eq_left,h,ha,hb]
 have hml:=(List.getElem?_eq_some_iff.1 hm).1
 have hle:min a b≤max a b:=by omega
 generalize max a b=M at *
 generalize min a b=m at *
 have aJ:∀j,(g.set M m)[j]? = if j=M then some m else g[j]? := fun j=>by
  rw [List.getElem?_set]
  by_cases e:M=j
  ·subst e;simp [hml]
  ·rw [if_neg e,if_neg (fun k=>e k.symm)]
 intro j
 induction j using Nat.strongRecOn with
 | _ j ih =>
  by_cases ej:j=M
  ·subst ej
   have h1:(g.set j m)[j]? = some m:=by rw [aJ,if_pos rfl]
   rw [dp h1,kP hm,if_pos rfl]
   by_cases e:m<j
   ·rw [if_pos e,ih m e,kP hn,if_neg (by omega)]
   ·rw [if_neg e];omega
  ·have h1:(g.set M m)[j]? = g[j]? := by rw [aJ,if_neg ej]
   cases h:g[j]? with
   | none=>rw [kO h,kO (h1.trans h),if_neg ej]
   | some z =>
    rw [dp h,dp (h1.trans h)]
    by_cases hz:z<j
    ·rw [if_pos hz,if_pos hz];exact ih z hz
    ·rw [if_neg hz,if_neg hz,if_neg ej]
def fI(g:List Nat):List Int:=g.map fun n=>((n:Nat):Int)
theorem Bp(g:List Nat):(fI g).length=g.length:=by simp [fI]
theorem tq{g:List Nat}{i x:Nat}(h:g[i]? = some x):(fI g)[Int.toNat (i:Int)]? = some (x:Int):=by simp [fI,h]
theorem Qo(g:List Nat)(i x:Nat):(fI g).set (Int.toNat (i:Int)) (x:Int)=fI (g.set i x):=by simp [fI,List.map_set]
theorem Bq{g:List Nat}{i:Nat}(h:i<g.length):(decide ((0:Int)≤(i:Int))&&decide ((i:Int)<(((fI g).length:Nat):Int)))=true:=by
 rw [Bp];exact dx (eL i) (aT h)
structure Dq(g g':List Nat):Prop where
 f:Fo g'
 n:g'.length=g.length
 r:∀j,root g' j=root g j
theorem Dq.trans{a b c:List Nat}(h:Dq a b)(k:Dq b c):Dq a c:=⟨k.f,k.n.trans h.n,fun j=>(k.r j).trans (h.r j)⟩
theorem Qp(hG:HG G)(g:List Nat)(i:Nat)(hf:Fo g)(hi:i<g.length):∃g',Dq g g'∧FX G 181 qf (((i:Int),()),(fI g,()))=some ((((root g i:Nat):Int),()),(fI g',())):=by
 have loop:∀(i:Nat) (g:List Nat),Fo g→i<g.length→∃g',Dq g g'∧LX G 181 qf Tryz.f181 qZ (aM Tryz.prog 181 0) (((i:Int),()),((),(fI g,())))=some ((((root g i:Nat):Int),()),(fI g',())):=by
  intro i
  induction i using Nat.strongRecOn with
  | _ i ih =>
   intro g hf hi
   have h:=List.getElem?_eq_getElem hi
   generalize g[i]=x at h
   have hxi:=hf i x h
   by_cases hx:x<i
   ·have h2:=List.getElem?_eq_getElem (show x<g.length by omega)
    generalize g[x]=y at h2
    have hyx:=hf x y h2
    have hs:=Jo hf h h2 hx
    have hf2:Fo (g.set i y):=hf.set (by omega)
    obtain ⟨g',h3,h4⟩:=ih y (by omega) (g.set i y) hf2 (by rw [List.length_set];omega)
    refine ⟨g',⟨h3.f,by rw [h3.n,List.length_set],fun j=>(h3.r j).trans (hs j)⟩,?_⟩
    refine ar (j:=0) (by kernel_rfl) ((Kf _ _ _).trans ?_)
    refine af (Bq hi) (aa (tq h) ?_)
    refine af (show (((x:Nat):Int) != (i:Int))=true by rw [bne_iff_ne];omega) ?_
    refine af (Bq hi) (aa (tq h) ?_)
    refine af (Bq (show x<g.length by omega)) (aa (tq h2) ?_)
    refine af (Bq hi) (aa (tq h) ?_)
    have ae9:=Qo g i y
    have key:∀f:List Int,f=fI (g.set i y)→cond ((decide ((0:Int)≤(i:Int)))&&(decide ((i:Int)<(((List.length f):Nat):Int)))) (((f)[(Int.toNat (i:Int))]?).bind fun (y5:Int)=>LX G 181 qf Tryz.f181 qZ (aM Tryz.prog 181 0) ((y5,()),((),(f,())))) none=some ((((root g i:Nat):Int),()),(fI g',())):=fun f hf=>by
     subst hf
     refine af (Bq (by rw [List.length_set];exact hi)) (aa (tq (x:=y) (by rw [List.getElem?_set];simp [hi])) ?_)
     rw [h4,hs y,dp h,if_pos hx,dp h2]
     by_cases hy:y<x
     ·rw [if_pos hy]
     ·have:y=x:=by omega
      subst this;rw [if_neg (by omega),kP h2]
    exact key _ ae9
   ·have:x=i:=by omega
    subst this
    refine ⟨g,⟨hf,rfl,fun _=>rfl⟩,?_⟩
    refine ar (j:=0) (by kernel_rfl) ((Kf _ _ _).trans ?_)
    refine af (Bq hi) (aa (tq h) ?_)
    rw [kP h]
    exact ag (by simp) rfl
 obtain ⟨g',h1,h2⟩:=loop i g hf hi
 exact ⟨g',h1,aw (fn:=Tryz.f181) (hG _ _ rfl) (by kernel_rfl) (by kernel_rfl) ((Yu _ _ _).trans h2)⟩
def Br(a b r:Nat):Nat:=if r=max a b then min a b else r
theorem ZL(hG:HG G)(g:List Nat)(i k:Nat)(hf:Fo g)(hi:i<g.length)(hk:k<g.length):∃g',Fo g'∧g'.length=g.length∧(∀j,root g' j=Br (root g i) (root g k) (root g j))∧FX G 180 Gn (((i:Int),((k:Int),())),(fI g,()))=some ((),(fI g',())):=by
 obtain ⟨g1,h1,e1⟩:=Qp hG g i hf hi
 obtain ⟨g2,h2,e2⟩:=Qp hG g1 k h1.f (by rw [h1.n];exact hk)
 rw [h1.r k] at e2
 have hs:=h1.trans h2
 have ra:g2[root g i]? = some (root g i):=by
  have:=Hu hs.f i (by rw [hs.n];exact hi)
  rw [hs.r i] at this;exact this
 have rb:g2[root g k]? = some (root g k):=by
  have:=Hu hs.f k (by rw [hs.n];exact hk)
  rw [hs.r k] at this;exact this
 have hal:=(List.getElem?_eq_some_iff.1 ra).1
 have hbl:=(List.getElem?_eq_some_iff.1 rb).1
 have hm:max (root g i) (root g k)<g2.length:=by omega
 refine ⟨g2.set (max (root g i) (root g k)) (min (root g i) (root g k)),hs.f.set (by omega),by rw [List.length_set,hs.n],fun j=>by rw [Mt ra rb j,hs.r j];rfl,?_⟩
 refine aw (fn:=Tryz.f180) (hG _ _ rfl) (by kernel_rfl) (by kernel_rfl) ((Yt _ _ _).trans ?_)
 refine aa e1 (aa e2 ?_)
 have em:(max ((root g i:Nat):Int) ((root g k:Nat):Int):Int)=((max (root g i) (root g k):Nat):Int):=by omega
 have en:(min ((root g i:Nat):Int) ((root g k:Nat):Int):Int)=((min (root g i) (root g k):Nat):Int):=by omega
 have key:∀m n:Int,m=((max (root g i) (root g k):Nat):Int)→n=((min (root g i) (root g k):Nat):Int)→cond ((decide ((0:Int)≤m))&&(decide (m<(((List.length (fI g2)):Nat):Int)))) (((fI g2)[(Int.toNat m)]?).bind fun (y3:Int)=>(some ((),((List.set (fI g2) (Int.toNat m) n),())):Option (Unit×((List Int)×Unit)))) none=some ((),(fI (g2.set (max (root g i) (root g k)) (min (root g i) (root g k))),())):=fun m n Ru H6=>by
  subst Ru H6
  refine af (Bq hm) (aa (tq (List.getElem?_eq_getElem hm)) ?_)
  rw [Qo]
 exact key _ _ em en
end Go.Vs
namespace Go.Vs
open Go.Proofs
variable {G:(f:FuncId)→(g:aL)→Option (g.A→Option g.B)}
theorem Jp{α:Type}(x:ae)(es:List (ae×α)):sy bp x es=es.findIdx? fun e=>decide (e.1=x):=by
 show List.findIdx? (fun e:ae×α=>((x.1.1==e.1.1.1)&&(x.1.2==e.1.1.2))&&(x.2==e.1.2)) es=_
 congr 1
 funext e
 rw [j6 x e.1]
 by_cases h:x=e.1
 ·rw [decide_eq_true h,decide_eq_true h.symm]
 ·rw [decide_eq_false h,decide_eq_false (fun k=>h k.symm)]
def fb{β α:Type}[DecidableEq β](x:β):List (β×α)→Option α
 | []=>none
 | e::r=>if e.1=x then some e.2 else fb x r
theorem Jq{β α:Type}[DecidableEq β](x:β):∀es:List (β×α),((es.findIdx? fun e=>decide (e.1=x)).bind fun i=>(es[i]?).map (·.2))=fb x es
 | []=>rfl
 | e::r=>by
  have ih:=Jq x r
  rw [List.findIdx?_cons,fb]
  by_cases h:e.1=x
  ·rw [if_pos (decide_eq_true h),if_pos h];rfl
  ·rw [if_neg (by simpa using h),if_neg h,←ih]
   cases r.findIdx? fun e=>decide (e.1=x)<;>simp
theorem Qq{α:Type}(x:ae)(es:List (ae×α)):iG bp x es=fb x es:=by
 have:=Jq x es
 rw [←Jp] at this
 exact this
theorem Qr{α:Type}{x:ae}(v:α){es:List (ae×α)}(h:x∉es.map (·.1)):lL bp x v es=es++[(x,v)]:=by
 have e:sy bp x es=none:=by
  rw [Jp,List.findIdx?_eq_none_iff]
  intro q hq
  exact decide_eq_false fun k=>h (List.mem_map.2 ⟨q,hq,k⟩)
 unfold lL
 split
 ·rename_i i k;rw [e] at k;cases k
 ·rfl
theorem Hv{β α:Type}[DecidableEq β]{x:β}{v:α}:∀{es:List (β×α)},(es.map (·.1)).Nodup→(x,v)∈es→fb x es=some v
 | [],_,h=>by cases h
 | e::r,hn,h=>by
  simp only [List.map_cons,List.nodup_cons] at hn
  rw [fb]
  rcases List.mem_cons.1 h with e1 | h
  ·subst e1;rw [if_pos rfl]
  ·rw [if_neg (fun k=>hn.1 (by rw [k];exact List.mem_map.2 ⟨_,h,rfl⟩))]
   exact Hv hn.2 h
def gN:List ai→Nat→List (ae×Int)
 | [],_=>[]
 | v::r,i=>v.2.1.map (fun x=>(x,(i:Int)))++gN r (i+1)
theorem wy:∀(l:List ai) (i:Nat),(gN l i).map (·.1)=av l
 | [],_=>rfl
 | v::r,i=>by
  have e:(v.2.1.map fun x=>(x,(i:Int))).map (·.1)=v.2.1:=by rw [List.map_map];exact List.map_id _
  rw [gN,ia,List.map_append,wy r,e]
theorem Hw:∀(a b:List ai) (i:Nat),gN (a++b) i=gN a i++gN b (i+a.length)
 | [],b,i=>rfl
 | v::r,b,i=>by
  rw [List.cons_append,gN,gN,Hw r b,List.append_assoc]
  congr 3
  simp;omega
theorem Hy{x:ae}{a:Int}:∀{l:List ai} {i:Nat},(x,a)∈gN l i→∃k v,l[k]? = some v∧a=((i+k:Nat):Int)∧x∈v.2.1
 | [],i,h=>by cases h
 | v::r,i,h=>by
  rw [gN] at h
  rcases List.mem_append.1 h with h | h
  ·obtain ⟨y,hy,e⟩:=List.mem_map.1 h
   cases e
   exact ⟨0,v,rfl,rfl,hy⟩
  ·obtain ⟨k,u,h1,h2,h3⟩:=Hy h
   exact ⟨k+1,u,by simpa using h1,by rw [h2];congr 1;omega,h3⟩
theorem KC{x:ae}:∀{l:List ai} {i k:Nat} {v:ai},l[k]? = some v→x∈v.2.1→(x,((i+k:Nat):Int))∈gN l i
 | v::r,i,0,u,h,hx=>by
  simp at h;subst h
  rw [gN];exact List.mem_append_left _ (List.mem_map.2 ⟨x,hx,rfl⟩)
 | v::r,i,k+1,u,h,hx=>by
  rw [gN]
  refine List.mem_append_right _ ?_
  have:=KC (i:=i+1) (k:=k) (by simpa using h) hx
  rwa [show i+1+k=i+(k+1) by omega] at this
theorem Qs(i:Nat):fI (List.range i)++[(i:Int)]=fI (List.range (i+1)):=by rw [List.range_succ];simp [fI]
section
variable {d:aj} {y:gL.B}
theorem Sw(h:Wf d){i:Nat}(hi:i<d.1.length){f:List Int}{nn:Int}
  (next:LX G 177 gL Tryz.f177 qY (aM Tryz.prog 177 0) ((d.1,(nn,((IntKind.wrap .i64 ((i:Int)+1)),()))),((),(f,(gN (d.1.take (i+1)) 0,()))))=some y):∀(n j:Nat) (es:List (ae×Int)),j+n=d.1[i].2.1.length→es=gN (d.1.take i) 0++(d.1[i].2.1.take j).map (fun x=>(x,(i:Int))) →
  LX G 177 gL Tryz.f177 uC (aM Tryz.prog 177 1) (((i:Int),(d.1,(nn,((i:Int),(d.1[i].2.1,(((d.1[i].2.1.length:Nat):Int),((j:Int),()))))))),((),(f,(es,()))))=some y:=by
 have hr:=h.tl d.1[i] (List.getElem_mem hi)
 have et:d.1.take (i+1)=d.1.take i++[d.1[i]]:=(List.take_append_getElem hi).symm
 have ev:gN (d.1.take (i+1)) 0=gN (d.1.take i) 0++d.1[i].2.1.map (fun x=>(x,(i:Int))):=by
  rw [et,Hw]
  have:(d.1.take i).length=i:=by rw [List.length_take];omega
  rw [this,Nat.zero_add]
  congr 1
  show d.1[i].2.1.map (fun x=>(x,(i:Int)))++[]=_
  rw [List.append_nil]
 have nd:(av (d.1.take i)++d.1[i].2.1).Nodup:=by
  have h1:=h.rw.n
  rw [←List.take_append_drop (i+1) d.1,et,nD,nD] at h1
  have e2:av [d.1[i]]=d.1[i].2.1:=by rw [ia];exact List.append_nil _
  rw [e2] at h1
  exact (List.nodup_append.1 h1).1
 intro n
 induction n with
 | zero =>
  intro j es hj he
  refine ar (j:=1) (by kernel_rfl) ((Kb _ _ _).trans ?_)
  refine ag (decide_eq_false (show ¬((j:Int)<((d.1[i].2.1.length:Nat):Int)) by omega)) ?_
  have e:d.1[i].2.1.take j=d.1[i].2.1:=List.take_of_length_le (by omega)
  rw [e,←ev] at he
  subst he
  exact next
 | succ n ih =>
  intro j es hj he
  have aJ:j<d.1[i].2.1.length:=by omega
  refine ar (j:=1) (by kernel_rfl) ((Kb _ _ _).trans ?_)
  refine af (aT aJ) (aa (az (List.getElem?_eq_getElem aJ)) ?_)
  have BQ:d.1[i].2.1[j]∉es.map (·.1):=by
   have e3:((d.1[i].2.1.take j).map fun x=>(x,(i:Int))).map (·.1)=d.1[i].2.1.take j:=by rw [List.map_map];exact List.map_id _
   rw [he,List.map_append,wy,e3,List.mem_append]
   rintro (k | k)
   ·exact (List.nodup_append.1 nd).2.2 _ k _ (List.getElem_mem aJ) rfl
   ·obtain ⟨q,hq,he⟩:=List.getElem_of_mem k
    have hq1:q<j:=by rw [List.length_take] at hq;omega
    rw [List.getElem_take] at he
    have:=(List.getElem_inj (List.nodup_append.1 nd).2.1).1 he
    omega
  have:=ih (j+1) (lL bp d.1[i].2.1[j] (i:Int) es) (by omega) (by
   rw [Qr _ BQ,he,←List.take_append_getElem aJ,List.map_append,List.append_assoc];rfl)
  rw [←aH aJ (by omega)] at this
  exact this
theorem Sx(h:Wf d)
  (next:LX G 177 gL Tryz.f177 ox (aM Tryz.prog 177 2) ((gN d.1 0,()),((),(fI (List.range d.1.length),((none,gN d.1 0),()))))=some y):∀(n i:Nat),i+n=d.1.length →
  LX G 177 gL Tryz.f177 qY (aM Tryz.prog 177 0) ((d.1,(((d.1.length:Nat):Int),((i:Int),()))),((),(fI (List.range i),(gN (d.1.take i) 0,()))))=some y:=by
 have hn:=h.nv
 intro n
 induction n with
 | zero =>
  intro i hi
  have e:i=d.1.length:=by omega
  subst e
  refine ar (j:=0) (by kernel_rfl) ((Ka _ _ _).trans ?_)
  refine ag (decide_eq_false (show ¬(((d.1.length:Nat):Int)<((d.1.length:Nat):Int)) by omega)) ?_
  rw [List.take_length]
  exact next
 | succ n ih =>
  intro i hi
  have aJ:i<d.1.length:=by omega
  refine ar (j:=0) (by kernel_rfl) ((Ka _ _ _).trans ?_)
  refine af (aT aJ) (aa (az (List.getElem?_eq_getElem aJ)) ?_)
  refine af (fits (by show (fI (List.range i)).length+1≤_;rw [Bp];simp;omega)) ?_
  have nx:=ih (i+1) (by omega)
  rw [←aH aJ (by omega),←Qs] at nx
  exact Sw (G:=G) h aJ nx d.1[i].2.1.length 0 _ (by omega) (by simp)
end
end Go.Vs
namespace Go.Vs
open Go.Proofs
variable {G:(f:FuncId)→(g:aL)→Option (g.A→Option g.B)}
theorem Bu(a b:Nat):Br a b a=min a b∧Br a b b=min a b:=by
 unfold Br
 constructor<;>split<;>omega
structure ZM(d:aj)(rem:List (ae×Int))(g:List Nat):Prop where
 f:Fo g
 n:g.length=d.1.length
 c:∀i,i<d.1.length→cV d (cE d i) (cE d (root g i))
 p:∀(z:ae) (i k:Nat),(z,(i:Int))∈gN d.1 0→(au z,(k:Int))∈gN d.1 0→(z,(i:Int))∉rem→root g i=root g k
theorem uU{d:aj}(h:Wf d){z:ae}{a:Int}(hm:(z,a)∈gN d.1 0):∃i:Nat,i<d.1.length∧a=(i:Int)∧z∈av d.1∧ct d z=some (cE d i):=by
 obtain ⟨k,v,h1,h2,h3⟩:=Hy hm
 rw [Nat.zero_add] at h2
 have hv:=List.mem_of_getElem? h1
 refine ⟨k,(List.getElem?_eq_some_iff.1 h1).1,h2,bz.2 ⟨v,hv,h3⟩,?_⟩
 rw [mg h1]
 exact mI h.rw hv h3
theorem Js{d:aj}(h:Wf d){z:ae}(hz:z∈av d.1):∃i:Nat,(z,(i:Int))∈gN d.1 0:=by
 obtain ⟨v,hv,hx⟩:=bz.1 hz
 obtain ⟨k,hk⟩:=List.getElem?_of_mem hv
 have:=KC (i:=0) hk hx
 rw [Nat.zero_add] at this
 exact ⟨k,this⟩
theorem KD{d:aj}(h:Wf d){z:ae}{a:Int}(hm:(z,a)∈gN d.1 0):iG bp z (gN d.1 0)=some a:=by
 rw [Qq]
 refine Hv ?_ hm
 rw [wy];exact h.rw.n
theorem ZM.same{d:aj}(h:Wf d){g:List Nat}(hg:ZM d [] g){a b:ID}(k:cV d a b):∀i j,i<d.1.length→j<d.1.length→cE d i=a→cE d j=b→root g i=root g j:=by
 induction k with
 | refl=>intro i j hi hj h1 h2;rw [iW h.sv hi hj (h1.trans h2.symm)]
 | tail _ s ih =>
  intro i j hi hj h1 h2
  obtain ⟨z,hz,s1,s2⟩:=s
  obtain ⟨m,hm⟩:=Js h hz
  obtain ⟨q,hq⟩:=Js h (h.other hz)
  obtain ⟨m',m1,m2,_,m3⟩:=uU h hm
  obtain ⟨q',q1,q2,_,q3⟩:=uU h hq
  have em:m'=m:=by omega
  have eq:q'=q:=by omega
  subst em;subst eq
  rw [s1] at m3;rw [s2] at q3
  have r1:=ih i m' hi m1 h1 (Option.some.inj m3).symm
  have r2:=hg.p z m' q' hm hq (by simp)
  have ej:q'=j:=iW h.sv q1 hj ((Option.some.inj q3).symm.trans h2.symm)
  rw [r1,r2,ej]
theorem ZM.can{d:aj}(h:Wf d){g:List Nat}(hg:ZM d [] g):Ho d (fI ((List.range d.1.length).map (root g))):=by
 have mw:∀i,i<d.1.length→(fI ((List.range d.1.length).map (root g))).getD i 0=((root g i:Nat):Int):=fun i hi=>by
  unfold fI;simp [List.getD,hi]
 refine ⟨⟨by rw [Bp];simp,fun i hi=>⟨root g i,KB g i,mw i hi,hg.c i hi⟩⟩,fun i hi j hj k => ?_⟩
 rw [mw i hi,hg.same h k i j hi hj rfl rfl]
 have:=KB g j
 omega
theorem Sy(hG:HG G){d:aj}(h:Wf d){g:List Nat}:∀(n i:Nat) (g':List Nat),i+n=d.1.length→Fo g'→g'.length=d.1.length→(∀j,root g' j=root g j) →
  LX G 177 gL Tryz.f177 uD (aM Tryz.prog 177 3) ((((d.1.length:Nat):Int),((i:Int),())),((),(fI g',(fI ((List.range i).map (root g)),()))))=some ((fI ((List.range d.1.length).map (root g)),()),()):=by
 have Rk:=h.nv
 intro n
 induction n with
 | zero =>
  intro i g' hi h1 h2 h3
  have e:i=d.1.length:=by omega
  subst e
  refine ar (j:=3) (by kernel_rfl) ((Kd _ _ _).trans ?_)
  exact ag (decide_eq_false (show ¬(((d.1.length:Nat):Int)<((d.1.length:Nat):Int)) by omega)) rfl
 | succ n ih =>
  intro i g' hi h1 h2 h3
  have aJ:i<d.1.length:=by omega
  obtain ⟨g2,s,e⟩:=Qp hG g' i h1 (by omega)
  refine ar (j:=3) (by kernel_rfl) ((Kd _ _ _).trans ?_)
  refine af (aT aJ) (aa e ?_)
  refine af (fits (by show (fI _).length+1≤_;rw [Bp];simp;omega)) ?_
  have:=ih (i+1) g2 (by omega) s.f (by rw [s.n,h2]) (fun j=>(s.r j).trans (h3 j))
  have e2:fI ((List.range (i+1)).map (root g))=fI ((List.range i).map (root g))++[((root g' i:Nat):Int)]:=by
   rw [List.range_succ,h3 i];simp [fI]
  rw [e2,←aH aJ (by omega)] at this
  exact this
theorem Sz(hG:HG G){d:aj}(h:Wf d):∀(n:Nat) (rem:List (ae×Int)) (g:List Nat) (o:Option (ae×Int)),rem.length=n→(∀e∈rem,e∈gN d.1 0)→ZM d rem g →
  LX G 177 gL Tryz.f177 ox (aM Tryz.prog 177 2) ((gN d.1 0,()),((),(fI g,((o,rem),()))))=some ((labels d,()),()):=by
 intro n
 induction n with
 | zero =>
  intro rem g o hn hr hg
  have e:rem=[]:=List.eq_nil_of_length_eq_zero hn
  subst e
  refine ar (j:=2) (by kernel_rfl) ((Kc _ _ _).trans ?_)
  refine af rfl ?_
  have:=Sy (G:=G) hG h (g:=g) d.1.length 0 g (by omega) hg.f hg.n (fun _=>rfl)
  rw [(hg.can h).uniq h (ib h)] at this
  have e2:((fI g).length:Int)=((d.1.length:Nat):Int):=by rw [Bp,hg.n]
  rw [←e2] at this
  exact this
 | succ n ih =>
  intro rem g o hn hr hg
  refine ar (j:=2) (by kernel_rfl) ((Kc _ _ _).trans ?_)
  refine ag (show rem.isEmpty=false by cases rem with | nil=>simp at hn | cons _ _=>rfl) ?_
  refine lZ (show 0<rem.length by omega) fun j hj => ?_
  have hj':j<rem.length:=hj
  refine aa (List.getElem?_eq_getElem hj') ?_
  have hm:=hr _ (List.getElem_mem hj')
  generalize he:rem[j]=e at hm
  obtain ⟨z,a⟩:=e
  obtain ⟨i,hi,ha,hz,haz⟩:=uU h hm
  subst ha
  obtain ⟨k,hk⟩:=Js h (h.other hz)
  obtain ⟨k',uZ,ek,_,hak⟩:=uU h hk
  have ek':k'=k:=by omega
  subst ek'
  refine aa (G9 (hG _ _ rfl) z (h.side hz)) ?_
  have mw:iG bp (au z) (gN d.1 0)=some (k':Int):=KD h hk
  refine af (show (iG bp (au z) (gN d.1 0)).isSome=true by rw [mw];rfl) ?_
  obtain ⟨g',h1,h2,h3,h4⟩:=ZL hG g i k' hg.f (by rw [hg.n];exact hi) (by rw [hg.n];exact uZ)
  refine aa (a:=((),(fI g',()))) (by
   have:(iG bp (au z) (gN d.1 0)).getD (0:Int)=(k':Int):=by rw [mw];rfl
   rw [←this] at h4
   exact h4) ?_
  have afb:Je d (cE d i) (cE d k'):=⟨z,hz,haz,hak⟩
  have cij:cV d (cE d (root g i)) (cE d (root g k')):=((hg.c i hi).symm h).trans (afb.conn.trans (hg.c k' uZ))
  refine ih (rem.eraseIdx j) g' _ (by rw [List.length_eraseIdx,if_pos hj'];omega) (fun e he=>hr e (List.mem_of_mem_eraseIdx he)) ⟨h1,h2.trans hg.n,fun q hq => ?_,fun y p q hp hq hy => ?_⟩
  ·rw [h3 q]
   unfold Br
   split
   ·rename_i e
    refine (hg.c q hq).trans ?_
    rw [e]
    rcases Nat.le_total (root g i) (root g k') with hle | hle
    ·rw [Nat.max_eq_right hle,Nat.min_eq_left hle];exact cij.symm h
    ·rw [Nat.max_eq_left hle,Nat.min_eq_right hle];exact cij
   ·exact hg.c q hq
  ·rw [h3 p,h3 q]
   by_cases lJ:(y,(p:Int))∈rem
   ·
    have e:(y,(p:Int))=(z,(i:Int)):=by
     apply Classical.byContradiction
     intro ne
     apply hy
     rw [List.mem_eraseIdx_iff_getElem]
     obtain ⟨t,ht,hte⟩:=List.getElem_of_mem lJ
     refine ⟨t,ht,fun k => ?_,hte⟩
     subst k
     exact ne (hte.symm.trans he)
    have e1:y=z:=congrArg Prod.fst e
    have e2:p=i:=by have:=congrArg Prod.snd e;simp at this;omega
    subst e1;subst e2
    have h5:=KD h hq
    rw [mw] at h5
    have e3:q=k':=by have:=Option.some.inj h5;omega
    subst e3
    rw [(Bu _ _).1,(Bu _ _).2]
   ·rw [hg.p y p q hp hq lJ]
theorem Jt(n:Nat):∀i,root (List.range n) i=i:=fun i=>by
 cases h:(List.range n)[i]? with
 | none=>exact kO h
 | some x =>
  have:x=i:=by rw [List.getElem?_range (by have:=(List.getElem?_eq_some_iff.1 h).1;simpa using this)] at h;exact (Option.some.inj h).symm
  subst this
  exact kP h
theorem ZN(hG:HG G)(d:aj)(h:Wf d):FX G 177 gL ((d,()),())=some ((labels d,()),()):=by
 refine aw (fn:=Tryz.f177) (hG _ _ rfl) (by kernel_rfl) (by kernel_rfl) ((Yr _ _ _).trans ?_)
 refine Sx (G:=G) h ?_ d.1.length 0 (by omega)
 refine Sz hG h _ (gN d.1 0) (List.range d.1.length) none rfl (fun _ k=>k) ⟨fun i x hx => ?_,by simp,fun i hi => ?_,fun z i k h1 h2 h3=>absurd h1 h3⟩
 ·have:=(List.getElem?_eq_some_iff.1 hx).1
  rw [List.getElem?_range (by simpa using this)] at hx
  have:=Option.some.inj hx;omega
 ·rw [Jt];exact .refl _
end Go.Vs
namespace Go.Vs
open Go.Proofs
variable {G:(f:FuncId)→(g:aL)→Option (g.A→Option g.B)}
structure PG(G:(f:FuncId)→(g:aL)→Option (g.A→Option g.B)):Prop where
 h:HG G
 f:∀d,Wf d→FX G 166 xf ((d,()),())=some ((dF d,()),())
 c:∀d,Wf d→FX G 167 xg ((d,()),())=some ((fO d,()),())
theorem ZO(hp:PG G)(d:aj)(h:Wf d):FX G 153 Gk ((d,()),())=some ((((d.1.length:Nat):Int),(((d.2.length:Nat):Int),(((ft d:Nat):Int),(fO d,())))),()):=by
 have hn:=h.nv
 have hf:=uT h
 have ha:al d.1≤d.1.length:=List.countP_le_length
 refine aw (fn:=Tryz.f153) (hp.h _ _ rfl) (by kernel_rfl) (by kernel_rfl) ((Yk _ _ _).trans ?_)
 refine aa (Qn hp.h d.1 (by omega)) ?_
 refine aa (hp.f d h) (aa (hp.c d h) ?_)
 have e:IntKind.wrap .i64 ((((dF d).length:Nat):Int)+((al d.1:Nat):Int))=((ft d:Nat):Int):=by
  rw [wrap_small (by omega) (by omega)];rfl
 exact congrArg (fun n:Int=>some ((((d.1.length:Nat):Int),(((d.2.length:Nat):Int),(n,(fO d,())))),())) e
theorem ZP(hp:PG G)(d:aj)(h:Wf d):FX G 136 Gg ((d,()),())=some ((fP d,()),()):=by
 have hn:=h.nv;have bj:=h.ne
 have hf:=uT h
 have ha:al d.1≤d.1.length:=List.countP_le_length
 refine aw (fn:=Tryz.f136) (hp.h _ _ rfl) (by kernel_rfl) (by kernel_rfl) ((X9 _ _ _).trans ?_)
 refine aa (ZO hp d h) (ag rfl ?_)
 have hr:=xt h (ib h)
 obtain ⟨k,e1,e2⟩:=Qj h hr
 have ec:=wu h
 have NT:(km d (labels d)).length≤d.1.length:=by
  unfold km
  rw [List.length_map]
  refine Nat.le_trans (List.length_filter_le _ _) ?_
  simp
 have Xu:ft d≤80+d.1.length:=by unfold ft;omega
 refine congrArg (fun n:Int=>some ((n,()),())) ?_
 show IntKind.wrap .i64 (fO d - IntKind.wrap .i64 (Int.tdiv (IntKind.wrap .i64 ((IntKind.wrap .i64 (((d.1.length:Nat):Int) - ((d.2.length:Nat):Int)))+((ft d:Nat):Int))) 2))=fP d
 rw [e1,ec]
 have hk:(k:Int)≤1000:=by omega
 rw [wrap_small (n:=((d.1.length:Nat):Int) - ((d.2.length:Nat):Int)) (by omega) (by omega)]
 rw [wrap_small (n:=((d.1.length:Nat):Int) - ((d.2.length:Nat):Int)+((ft d:Nat):Int)) (by omega) (by omega)]
 have e3:((d.1.length:Nat):Int) - ((d.2.length:Nat):Int)+((ft d:Nat):Int)=2 * ((((km d (labels d)).length:Nat):Int) - (k:Int)):=by omega
 rw [e3,Int.mul_tdiv_cancel_left _ (by decide)]
 rw [wrap_small (n:=(((km d (labels d)).length:Nat):Int) - (k:Int)) (by omega) (by omega)]
 rw [wrap_small (by omega) (by omega)]
 omega
theorem SA(hp:PG G):Jm G:=fun d h=>by
 refine aw (fn:=Tryz.f114) (hp.h _ _ rfl) (by kernel_rfl) (by kernel_rfl) ((XS _ _ _).trans ?_)
 refine aa (ZP hp d h) ?_
 refine congrArg (fun b:Bool=>some ((b,()),())) ?_
 show (fP d==0)=decide (fP d=0)
 rw [Bool.eq_iff_iff];simp
end Go.Vs
