/- What the program computes of faces, parts and whether a diagram lies in the plane. -/
import Derived.Test.YtpldhjjpeldkaaaGreatSplits
import Derived.Test.YtpldhjjpeldkaaaGreatEuler
set_option linter.unusedVariables false
set_option linter.unusedSimpArgs false
namespace Go.Vs
open Go.Proofs
variable {G:(f:FuncId)→(g:aL)→Option (g.A→Option g.B)}
theorem JG(w:aj)(r:List aj)(x:ID):aQ (w::r) x=if w.1=x then some w else aQ r x:=by
 unfold aQ;rw [List.find?_cons];by_cases h:w.1=x<;>simp [h]
theorem Qo(hG:HG G)(l:List aj)(x:ID)(hl:l.length≤1073741824):FX G 151149 j9 ((l,x,()),())=some (Cu zV (aQ l x),()):=by
 refine aC (fn:=Tryz.f149) (hG _ _ rfl) (by kernel_rfl) (by kernel_rfl) ((Pn _ _ _).trans ?_)
 have loop:∀(n i:Nat),i+n=l.length→LX G 151149 j9 Tryz.f149 lz (aX Tryz.prog 149 0) ((l,(((l.length:Nat):Int),((i:Int),()))),(((x,()),(((0:Int),((0:Int),(([]:List ae),(e0,((0:Int),()))))),())),()))=some (Cu zV (aQ (l.drop i) x),()):=by
  intro n
  induction n with
  | zero =>
   intro i hi
   refine aw (j:=0) (by kernel_rfl) ((A6 _ _ _).trans ?_)
   refine ag (decide_eq_false (show ¬((i:Int)<((l.length:Nat):Int)) by omega)) ?_
   rw [List.drop_eq_nil_of_le (by omega)];rfl
  | succ n ih =>
   intro i hi
   have aE:i<l.length:=by omega
   have afy:FX G 150 GC ((l[i],()),())=some ((l[i].1,()),()):=aC (fn:=Tryz.f150) (hG _ _ rfl) (by kernel_rfl) (by kernel_rfl) (Y0 _ _ _)
   refine aw (j:=0) (by kernel_rfl) ((A6 _ _ _).trans ?_)
   refine af (ba aE) (aa (aD (List.getElem?_eq_getElem aE)) ?_)
   refine aa afy ?_
   rw [List.drop_eq_getElem_cons aE,JG]
   by_cases he:l[i].1=x
   ·rw [if_pos he]
    exact af ((wq l[i].1 x).trans (decide_eq_true he)) rfl
   ·rw [if_neg he]
    refine ag ((wq l[i].1 x).trans (decide_eq_false he)) ?_
    have:=ih (i+1) (by omega)
    rw [←aO aE hl] at this
    exact this
 have:=loop l.length 0 (by omega)
 rw [List.drop_zero] at this
 exact this
theorem aag(hG:HG G)(d:ai)(x:ID)(hs:Sm d):FX G 131 Gz ((d,x,()),())=some (Cu zV (bZ d x),()):=by
 have hv:=hs.v
 refine aC (fn:=Tryz.f131) (hG _ _ rfl) (by kernel_rfl) (by kernel_rfl) ((YN _ _ _).trans ?_)
 refine aa (Qo hG d.1 x (by omega)) ?_
 unfold bZ
 cases hf:aQ d.1 x with
 | none=>exact aa (VL (hG _ _ rfl) [] (by simp)) rfl
 | some v=>exact aa (VL (hG _ _ rfl) v.2.1 (hs.r v (eE hf))) rfl
theorem Qp(w:aj)(r:List aj)(x:ae):B5 (w::r) x=if x∈w.2.1 then some w.1 else B5 r x:=by
 unfold B5;rw [List.find?_cons];by_cases h:x∈w.2.1<;>simp [h]
theorem Ug(hG:HG G)(d:ai)(x:ae)(hs:Sm d):FX G 151 ux ((d,x,()),())=some (Cu zI (cS d x),()):=by
 have hv:=hs.v
 refine aC (fn:=Tryz.f151) (hG _ _ rfl) (by kernel_rfl) (by kernel_rfl) ((Y1 _ _ _).trans ?_)
 have loop:∀(n i:Nat),i+n=d.1.length→LX G 151 ux Tryz.f151 uE (aX Tryz.prog 151 0) ((d.1,(((d.1.length:Nat):Int),((i:Int),()))),(((x,()),((zI,()),())),()))=some (Cu zI (B5 (d.1.drop i) x),()):=by
  intro n
  induction n with
  | zero =>
   intro i hi
   refine aw (j:=0) (by kernel_rfl) ((Kr _ _ _).trans ?_)
   refine ag (decide_eq_false (show ¬((i:Int)<((d.1.length:Nat):Int)) by omega)) ?_
   rw [List.drop_eq_nil_of_le (by omega)];rfl
  | succ n ih =>
   intro i hi
   have aE:i<d.1.length:=by omega
   refine aw (j:=0) (by kernel_rfl) ((Kr _ _ _).trans ?_)
   refine af (ba aE) (aa (aD (List.getElem?_eq_getElem aE)) ?_)
   refine aa (Dn hG d.1[i].2.1 x (by have:=hs.r _ (List.getElem_mem aE);omega)) ?_
   rw [List.drop_eq_getElem_cons aE,Qp]
   by_cases he:x∈d.1[i].2.1
   ·rw [if_pos he]
    exact af (decide_eq_true he) rfl
   ·rw [if_neg he]
    refine ag (decide_eq_false he) ?_
    have:=ih (i+1) (by omega)
    rw [←aO aE (by omega)] at this
    exact this
 have:=loop d.1.length 0 (by omega)
 rw [List.drop_zero] at this
 exact this
def JH(x:ae):List aM→Int→Int
 | [],_ => -1
 | g::r,i=>if g.1=x then i else JH x r (i+1)
theorem HE(x:ae):∀(l:List aM) (i:Nat),(JH x l i = -1∧lD l x=none)∨∃k g,JH x l (i:Int)=((i+k:Nat):Int)∧l[k]? = some g∧lD l x=some g.2
 | [],i=>.inl ⟨rfl,rfl⟩
 | g::r,i=>by
  rw [JH,oX]
  by_cases h:g.1=x
  ·rw [if_pos h,if_pos h]
   exact .inr ⟨0,g,by simp,by simp,rfl⟩
  ·rw [if_neg h,if_neg h]
   have e:(i:Int)+1=((i+1:Nat):Int):=by omega
   rw [e]
   rcases HE x r (i+1) with ⟨h1,h2⟩ | ⟨k,q,h1,h2,h3⟩
   ·exact .inl ⟨h1,h2⟩
   ·exact .inr ⟨k+1,q,by rw [h1];congr 1;omega,by simpa using h2,h3⟩
theorem Qq(hG:HG G)(l:List aM)(x:ae)(hl:l.length≤1073741824):FX G 164162 iZ ((l,()),((x,()),()))=some ((JH x l 0,()),((x,()),())):=by
 refine aC (fn:=Tryz.f162) (hG _ _ rfl) (by kernel_rfl) (by kernel_rfl) ((Pp _ _ _).trans ?_)
 have loop:∀(n i:Nat),i+n=l.length→LX G 164162 iZ Tryz.f162 jG (aX Tryz.prog 162 0) ((l,(((l.length:Nat):Int),((i:Int),()))),(((x,()),()),()))=some ((JH x (l.drop i) i,()),((x,()),())):=by
  intro n
  induction n with
  | zero =>
   intro i hi
   refine aw (j:=0) (by kernel_rfl) ((A8 _ _ _).trans ?_)
   refine ag (decide_eq_false (show ¬((i:Int)<((l.length:Nat):Int)) by omega)) ?_
   rw [List.drop_eq_nil_of_le (by omega)];rfl
  | succ n ih =>
   intro i hi
   have aE:i<l.length:=by omega
   have afz:FX G 163 GG ((l[i],()),((x.1.1,(x.1.2,(x.2,()))),()))=some (((((l[i].1.1.1==x.1.1)&&(l[i].1.1.2==x.1.2))&&(l[i].1.2==x.2)),()),((x.1.1,(x.1.2,(x.2,()))),())) :=
    aC (fn:=Tryz.f163) (hG _ _ rfl) (by kernel_rfl) (by kernel_rfl) (Y6 _ _ _)
   refine aw (j:=0) (by kernel_rfl) ((A8 _ _ _).trans ?_)
   refine af (ba aE) (aa (aD (List.getElem?_eq_getElem aE)) ?_)
   refine aa afz ?_
   rw [List.drop_eq_getElem_cons aE,JH]
   by_cases he:l[i].1=x
   ·rw [if_pos he]
    exact af ((uN l[i].1 x).trans (decide_eq_true he)) rfl
   ·rw [if_neg he]
    refine ag ((uN l[i].1 x).trans (decide_eq_false he)) ?_
    have:=ih (i+1) (by omega)
    have e:=aO aE hl
    show LX G 164162 iZ Tryz.f162 jG (aX Tryz.prog 162 0) ((l,(((l.length:Nat):Int),(IntKind.wrap .i64 ((i:Int)+1),()))),(((x,()),()),()))=some ((JH x (l.drop (i+1)) ((i+1:Nat):Int),()),((x,()),()))
    rw [e]
    exact this
 have:=loop l.length 0 (by omega)
 rw [List.drop_zero] at this
 exact this
theorem aah(hG:HG G)(l:List aM)(x:ae)(hl:l.length≤1073741824):FX G 152 GD ((l,x,()),())=some (Cu zD (lD l x),()):=by
 refine aC (fn:=Tryz.f152) (hG _ _ rfl) (by kernel_rfl) (by kernel_rfl) ((Y2 _ _ _).trans ?_)
 refine aa (Qq hG l x hl) ?_
 rcases HE x l 0 with ⟨h1,h2⟩ | ⟨k,g,h1,h2,h3⟩
 ·have h1:JH x l 0 = -1:=h1
  rw [h2]
  exact af (decide_eq_true (show JH x l 0<0 by omega)) rfl
 ·have h1:JH x l 0=(k:Int):=by
   have:JH x l ((0:Nat):Int)=JH x l 0:=rfl
   rw [←this,h1];congr 1;omega
  rw [h3]
  refine ag (decide_eq_false (show ¬JH x l 0<0 by omega)) ?_
  refine aa (show bh l (JH x l 0)=some g by rw [h1];exact aD h2) ?_
  rfl
theorem aai(hG:HG G)(s:StateT)(x:ae)(hs:Sm s.1)(hg:s.2.length≤50000000):FX G 132 xH ((s,x,()),())=some ((resolve s x,()),()):=by
 refine aC (fn:=Tryz.f132) (hG _ _ rfl) (by kernel_rfl) (by kernel_rfl) ((YO _ _ _).trans ?_)
 have hw:IntKind.wrap .i64 (((s.2.length:Nat):Int)+1)=((s.2.length+1:Nat):Int):=by rw [wrap_small (by omega) (by omega)];rfl
 have loop:∀(n i:Nat) (y:ae),i+n=s.2.length+1→LX G 132 xH Tryz.f132 uA (aX Tryz.prog 132 0) (((IntKind.wrap .i64 (((s.2.length:Nat):Int)+1)),((i:Int),())),(((s,()),((y,()),((zD,()),()))),()))=some ((res s.1 s.2 n y,()),()):=by
  intro n
  induction n with
  | zero =>
   intro i y hi
   refine aw (j:=0) (by kernel_rfl) ((Kn _ _ _).trans ?_)
   exact ag (decide_eq_false (show ¬((i:Int)<IntKind.wrap .i64 (((s.2.length:Nat):Int)+1)) by rw [hw];omega)) rfl
  | succ n ih =>
   intro i y hi
   refine aw (j:=0) (by kernel_rfl) ((Kn _ _ _).trans ?_)
   refine af (decide_eq_true (show ((i:Int)<IntKind.wrap .i64 (((s.2.length:Nat):Int)+1)) by rw [hw];omega)) ?_
   refine aa (Ug hG s.1 y hs) ?_
   rw [res]
   have h1:(Cu zI (cS s.1 y)).2.1=(cS s.1 y).isSome:=yP _ _
   cases ha:(cS s.1 y).isSome
   ·rw [if_neg (by simp)]
    refine ag (h1.trans ha) ?_
    refine aa (aah hG s.2 y (by omega)) ?_
    cases hf:lD s.2 y with
    | none=>exact af rfl rfl
    | some z =>
     refine ag rfl ?_
     have:=ih (i+1) z (by omega)
     have e:IntKind.wrap .i64 ((i:Int)+1)=((i+1:Nat):Int):=by rw [wrap_small (by omega) (by omega)];rfl
     rw [←e] at this
     exact this
   ·rw [if_pos rfl]
    exact af (h1.trans ha) rfl
 exact loop (s.2.length+1) 0 x (by omega)
theorem aaj(hG:HG G)(s:StateT)(c:vf)(hs:Sm s.1)(hg:s.2.length≤50000000):FX G 112 Gv ((s,c,()),())=some (bY s c,()):=by
 refine aC (fn:=Tryz.f112) (hG _ _ rfl) (by kernel_rfl) (by kernel_rfl) ((Yz _ _ _).trans ?_)
 refine aa (aag hG s.1 c.1 hs) ?_
 unfold bY
 cases hf:bZ s.1 c.1 with
 | none=>exact af rfl rfl
 | some v =>
  refine ag rfl ?_
  refine aa (aai hG s c.2 hs hg) ?_
  refine aa (Dn hG v.2.1 (resolve s c.2) (by have:=hs.r v (eE hf);omega)) ?_
  show _=some (((c.1,ES s c v),((0:Int),())),())
  unfold ES
  by_cases hm:resolve s c.2∈v.2.1
  ·rw [if_pos hm]
   exact aJ (decide_eq_true hm) rfl
  ·rw [if_neg hm]
   exact aJ (decide_eq_false hm) rfl
def JI(G:(f:FuncId)→(g:aL)→Option (g.A→Option g.B)):Prop:=∀d,Wf d→FX G 114 Ay ((d,()),())=some ((decide (bS d=0),()),())
theorem KX{l:List aj}{e:List au}{c:vf}{v:aj}(hs:bT l)(hf:aQ l c.1=some v)(x:ae):l.set (bz l c.1) (v.1,(pN v.2.1 c.2 x,v.2.2))=(cI (l,e) c x).1:=by
 rw [Jt hs (c4 hs hf)]
 have hi:=gR hf
 have hm:=eE hf
 unfold cI Vs.cf
 rw [←hi,jL (d:=(l,e)) hs hm]
theorem BI{d:ai}(h:Wf d):oI d.1 d.2=true:=by
 unfold oI
 have h1:=h.nv;have h2:=h.ne
 simp only [Bool.and_eq_true,decide_eq_true_eq,List.all_eq_true]
 exact ⟨by omega,by omega,fun v hv=>by have:=h.wM v hv;omega⟩
theorem SJ(hG:HG G)(hp:JI G)(o:bW):wN G o:=by
 intro s h hm Nj
 have Ny:=h.d.nv;have bc:=h.d.ne;have hn:=h.n
 have SF:=h.d.small
 have bI:=P1 hm
 have start:∀(e:Int) (w:aG),cC 92 oJ Tryz.f92 (FX G) (LX G 92 oJ Tryz.f92) ((o,()),(aI s,()))=some ((e,()),(w,()))→FX G 92 oJ ((o,()),(aI s,()))=some ((e,()),(w,())):=fun e w a =>
  aC (fn:=Tryz.f92) (hG _ _ rfl) (by kernel_rfl) (by kernel_rfl) a
 have f110:=T9 hG (aI s) (bB o) h.d.se (by show s.1.2.length≤_;omega)
 unfold uV
 cases hf:(aU s.1.2 (bB o)).isSome with
 | true =>
  have e1:sD (aI s) (bB o)=(12,aI s):=if_pos hf
  rw [e1] at f110
  refine ⟨12,aI s,start _ _ ((Vm _ _ _).trans (af (BI h.d) (aa f110 (af rfl rfl)))),?_⟩
  rw [if_pos (show (lV s.1 (bB o)).isSome=true from hf)];rfl
 | false =>
 rw [if_neg (show ¬(lV s.1 (bB o)).isSome=true by show ¬(aU s.1.2 (bB o)).isSome=true;rw [hf];simp)]
 by_cases V7:40≤s.1.2.length
 ·have e1:sD (aI s) (bB o)=(3,aI s):=(if_neg (show ¬(aU s.1.2 (bB o)).isSome=true by rw [hf];simp)).trans (if_pos V7)
  rw [e1] at f110
  refine ⟨3,aI s,start _ _ ((Vm _ _ _).trans (af (BI h.d) (aa f110 (af rfl rfl)))),?_⟩
  rw [if_pos V7];rfl
 rw [if_neg V7]
 obtain ⟨E,hE⟩:∃E,E=fb (bB o,(e0,0)) s.1.2:=⟨_,rfl⟩
 have e1:sD (aI s) (bB o)=(0,(s.1.1,(E,(s.2,())))):=by rw [hE];exact (if_neg (show ¬(aU s.1.2 (bB o)).isSome=true by rw [hf];simp)).trans (if_neg V7)
 rw [e1] at f110
 obtain ⟨x,hx⟩:∃x:ae,x=(bB o,0):=⟨_,rfl⟩
 obtain ⟨y,hy⟩:∃y:ae,y=(bB o,1):=⟨_,rfl⟩
 have f111:FX G 111 Aw ((bB o,()),())=some ((x,y,()),()):=by
  rw [hx,hy];exact aC (fn:=Tryz.f111) (hG _ _ rfl) (by kernel_rfl) (by kernel_rfl) (TV _ _ _)
 have f112:=fun c:vf=>aaj hG s c h.d.sm (by omega)
 have go:∀(e:Int) (w:aG),LX G 92 oJ Tryz.f92 ly (aX Tryz.prog 92 0) (((2:Int),((0:Int),())),(((s.1.1,(E,(s.2,()))),((s,()),((x,()),()))),([x,y],([oA o,oB o],()))))=some ((e,()),(w,()))→FX G 92 oJ ((o,()),(aI s,()))=some ((e,()),(w,())):=fun e w a =>
  start _ _ ((Vm _ _ _).trans (af (BI h.d) (aa f110 (ag rfl (aa f111 a)))))
 by_cases hA:(bY s (oA o)).2.1=0
 case neg =>
  rw [if_pos hA]
  have afA:bY s (oA o)=(zC,(13,())):=by
   unfold bY at hA ⊢
   cases hv:bZ s.1 (oA o).1 with
   | none=>rfl
   | some v=>rw [hv] at hA;exact absurd rfl hA
  refine ⟨13,(s.1.1,(E,(s.2,()))),go _ _ ?_,rfl⟩
  refine aw (j:=0) (by kernel_rfl) ((we _ _ _).trans ?_)
  refine af rfl (af rfl (aa (a:=oA o) rfl (aa (f112 (oA o)) ?_)))
  rw [afA]
  exact af rfl rfl
 rw [if_neg (fun k=>k hA)]
 obtain ⟨va,ca⟩:=oY hA
 obtain ⟨cA,hcA⟩:∃c:vf,c=(bY s (oA o)).1:=⟨_,rfl⟩
 have eA:bY s (oA o)=(cA,(0,())):=by
  rw [hcA]
  have:(bY s (oA o)).2=(0,()):=by
   have h1:(bY s (oA o)).2=((bY s (oA o)).2.1,()):=rfl
   rw [h1,hA]
  rw [←this]
 have cAv:(aQ s.1.1 cA.1).isSome=true:=by rw [hcA,ca];exact va
 obtain ⟨v1,tU⟩:=Option.isSome_iff_exists.1 cAv
 have V8:=eE tU
 obtain ⟨d1,Js⟩:∃d1:ai,d1=cI (s.1.1,E) cA x:=⟨_,rfl⟩
 have afC:s.1.1.set (bz s.1.1 cA.1) (v1.1,(pN v1.2.1 cA.2 x,v1.2.2))=d1.1:=by rw [Js];exact KX h.d.sv tU x
 have Uh:bT d1.1:=by rw [Js];exact h.d.sv.re _ _
 have hl1:=(List.getElem?_eq_some_iff.1 (c4 h.d.sv tU)).1
 have Ui:∀v∈d1.1,v.2.1.length≤50000000:=fun v hv=>by
  rw [Js] at hv
  obtain ⟨w,hw,rfl⟩:=List.mem_map.1 (show v∈s.1.1.map (wu cA.1 (pN (cv (s.1.1,E) cA.1) cA.2 x)) from hv)
  have h1:=h.d.wM w hw
  unfold wu
  split
  ·have h2:=xN (cv (s.1.1,E) cA.1) cA.2 x
   have h3:(cv (s.1.1,E) cA.1).length≤80:=by
    rw [←gR tU,jL (d:=(s.1.1,E)) h.d.sv V8]
    exact h.d.wM v1 V8
   show (pN (cv (s.1.1,E) cA.1) cA.2 x).length≤50000000
   omega
  ·omega
 have d1l:d1.1.length=s.1.1.length:=by rw [Js];exact fW _ _ _
 have Uj:∀(e:Int) (w:aG),LX G 92 oJ Tryz.f92 ly (aX Tryz.prog 92 0) (((2:Int),((1:Int),())),(((d1.1,(E,(s.2,()))),((s,()),((x,()),()))),([x,y],([oA o,oB o],()))))=some ((e,()),(w,()))→FX G 92 oJ ((o,()),(aI s,()))=some ((e,()),(w,())):=fun e w a=>by
  refine go _ _ ?_
  refine aw (j:=0) (by kernel_rfl) ((we _ _ _).trans ?_)
  refine af rfl (af rfl (aa (a:=oA o) rfl (aa (f112 (oA o)) ?_)))
  rw [eA]
  refine ag rfl (ag rfl ?_)
  refine aa (pC hG (s.1.1,(E,(s.2,()))) cA.1 h.d.sv SF.n) ?_
  refine af (dM (jf _) (ba hl1)) (aa (c4 h.d.sv tU) ?_)
  refine af rfl (aa (a:=x) rfl ?_)
  refine aa (PZ hG v1.2.1 cA.2 x (SF.r v1 V8)) ?_
  refine aa (c4 h.d.sv tU) ?_
  have key:∀a1:List aj,a1=d1.1→LX G 92 oJ Tryz.f92 ly (aX Tryz.prog 92 0) (((2:Int),((1:Int),())),(((a1,(E,(s.2,()))),((s,()),((x,()),()))),([x,y],([oA o,oB o],()))))=some ((e,()),(w,())):=fun a1 DK=>by subst DK;exact a
  exact key _ afC
 by_cases hB:(bY s (oB o)).2.1=0
 case neg =>
  rw [if_pos hB]
  have afD:bY s (oB o)=(zC,(13,())):=by
   unfold bY at hB ⊢
   cases hv:bZ s.1 (oB o).1 with
   | none=>rfl
   | some v=>rw [hv] at hB;exact absurd rfl hB
  refine ⟨13,(d1.1,(E,(s.2,()))),Uj _ _ ?_,rfl⟩
  refine aw (j:=0) (by kernel_rfl) ((we _ _ _).trans ?_)
  refine af rfl (af rfl (aa (a:=oB o) rfl (aa (f112 (oB o)) ?_)))
  rw [afD]
  exact af rfl rfl
 rw [if_neg (fun k=>k hB)]
 obtain ⟨vb,cb⟩:=oY hB
 obtain ⟨cB,hcB⟩:∃c:vf,c=if (bZ s.1 (oB o).1).isSome=true∧(oB o).2=(bB o,0) then oB o else (bY s (oB o)).1:=⟨_,rfl⟩
 have eB:bY s (oB o)=((bY s (oB o)).1,(0,())):=by
  have:(bY s (oB o)).2=(0,()):=by
   have h1:(bY s (oB o)).2=((bY s (oB o)).2.1,()):=rfl
   rw [h1,hB]
  rw [←this]
 have cB1:cB.1=(oB o).1:=by rw [hcB];split;rfl;exact cb
 have cBv:(aQ d1.1 cB.1).isSome=true:=by
  rw [Js]
  exact Hk _ (by rw [cB1];exact vb)
 obtain ⟨v2,xe⟩:=Option.isSome_iff_exists.1 cBv
 have aal:=eE xe
 have sR:=(List.getElem?_eq_some_iff.1 (c4 Uh xe)).1
 obtain ⟨d2,RL⟩:∃d2:ai,d2=cI d1 cB y:=⟨_,rfl⟩
 have SK:d1.1.set (bz d1.1 cB.1) (v2.1,(pN v2.2.1 cB.2 y,v2.2.2))=d2.1:=by rw [RL];exact KX (e:=d1.2) Uh xe y
 have Uk:Dk s o=d2:=by
  rw [RL,Js,hcA,hcB,hx,hy,hE];rfl
 have hE2:d2.2=E:=by rw [RL,Js];rfl
 have hwf:Wf d2:=by
  rw [←Uk]
  unfold Dk
  have hn0:aU s.1.2 (bB o)=none:=by simpa using hf
  refine h.d.link bI hn0 V7 (by rw [ca];exact va) ?_
  rw [←hcB,cB1];exact vb
 have last:∀(e:Int) (w:aG),LX G 92 oJ Tryz.f92 ly (aX Tryz.prog 92 0) (((2:Int),((2:Int),())),(((d2.1,(E,(s.2,()))),((s,()),((x,()),()))),([x,y],([oA o,oB o],()))))=some ((e,()),(w,()))→FX G 92 oJ ((o,()),(aI s,()))=some ((e,()),(w,())):=fun e w a=>by
  refine Uj _ _ ?_
  refine aw (j:=0) (by kernel_rfl) ((we _ _ _).trans ?_)
  refine af rfl (af rfl (aa (a:=oB o) rfl (aa (f112 (oB o)) ?_)))
  rw [eB]
  have key:∀a2:List aj,a2=d2.1→LX G 92 oJ Tryz.f92 ly (aX Tryz.prog 92 0) (((2:Int),((2:Int),())),(((a2,(E,(s.2,()))),((s,()),((x,()),()))),([x,y],([oA o,oB o],()))))=some ((e,()),(w,())):=fun a2 CC=>by subst CC;exact a
  refine ag rfl (af rfl ?_)
  have pH:=uN (oB o).2 x
  by_cases W0:(oB o).2=x
  ·have ecB:cB=oB o:=by rw [hcB];exact if_pos ⟨vb,W0.trans hx⟩
   refine af (pH.trans (decide_eq_true W0)) ?_
   rw [ecB] at xe sR SK
   refine aa (pC hG (d1.1,(E,(s.2,()))) (oB o).1 Uh (by show d1.1.length≤_;omega)) ?_
   refine af (dM (jf _) (ba sR)) (aa (c4 Uh xe) ?_)
   refine af rfl (aa (a:=y) rfl ?_)
   refine aa (PZ hG v2.2.1 (oB o).2 y (Ui v2 aal)) ?_
   refine aa (c4 Uh xe) ?_
   exact key _ SK
  ·have ecB:cB=(bY s (oB o)).1:=by rw [hcB];exact if_neg (fun k=>W0 (k.2.trans hx.symm))
   refine ag (pH.trans (decide_eq_false W0)) ?_
   rw [ecB] at xe sR SK
   refine aa (pC hG (d1.1,(E,(s.2,()))) (bY s (oB o)).1.1 Uh (by show d1.1.length≤_;omega)) ?_
   refine af (dM (jf _) (ba sR)) (aa (c4 Uh xe) ?_)
   refine af rfl (aa (a:=y) rfl ?_)
   refine aa (PZ hG v2.2.1 (bY s (oB o)).1.2 y (Ui v2 aal)) ?_
   refine aa (c4 Uh xe) ?_
   exact key _ SK
 have f114:=hp d2 hwf
 rw [Uk]
 have e2:(d2.1,E)=d2:=by rw [←hE2]
 by_cases hg:bS d2=0
 ·rw [if_neg (fun k=>k hg)]
  refine ⟨0,(d2.1,(E,(s.2,()))),last _ _ ?_,?_⟩
  ·refine aw (j:=0) (by kernel_rfl) ((we _ _ _).trans ?_)
   refine ag rfl ?_
   have key:∀q:ai,q=d2→((FX G 114 Ay ((q,()),())).bind fun (GL:((Bool×Unit)×Unit))=>cond (not GL.1.1) (some (((15:Int),()),((d2.1,(E,(s.2,()))),()))) (some (((0:Int),()),((d2.1,(E,(s.2,()))),()))))=some (((0:Int),()),((d2.1,(E,(s.2,()))),())):=fun q hq=>by
    subst hq
    exact aa f114 (aJ (decide_eq_true hg) rfl)
   exact key _ e2
  ·show (yR (d2.1,(E,(s.2,()))),((0:Int),()))=((d2,s.2),(0,()))
   show (((d2.1,E),s.2),((0:Int),()))=((d2,s.2),(0,()))
   rw [e2]
 ·rw [if_pos hg]
  refine ⟨15,(d2.1,(E,(s.2,()))),last _ _ ?_,rfl⟩
  refine aw (j:=0) (by kernel_rfl) ((we _ _ _).trans ?_)
  refine ag rfl ?_
  have key:∀q:ai,q=d2→((FX G 114 Ay ((q,()),())).bind fun (GL:((Bool×Unit)×Unit))=>cond (not GL.1.1) (some (((15:Int),()),((d2.1,(E,(s.2,()))),()))) (some (((0:Int),()),((d2.1,(E,(s.2,()))),()))))=some (((15:Int),()),((d2.1,(E,(s.2,()))),())):=fun q hq=>by
   subst hq
   exact aa f114 (aJ (decide_eq_false hg) rfl)
  exact key _ e2
end Go.Vs
namespace Go.Vs
open Go.Proofs
variable {G:(f:FuncId)→(g:aL)→Option (g.A→Option g.B)}
theorem aam(hG:HG G)(row:List ae)(d:ae)(hl:row.length≤100000000):FX G 182 GJ ((row,d,()),())=some (KI (fa row d 1),()):=by
 refine aC (fn:=Tryz.f182) (hG _ _ rfl) (by kernel_rfl) (by kernel_rfl) ((Zg _ _ _).trans ?_)
 have key:FX G 157 AE ((row,(d,((1:Int),()))),())=some (KI (fa row d 1),()):=by
  refine aC (fn:=Tryz.f157) (hG _ _ rfl) (by kernel_rfl) (by kernel_rfl) ((TW _ _ _).trans ?_)
  refine aa (Bl (hG _ _ rfl) row d (by omega)) ?_
  unfold fa
  by_cases hd:d∈row
  ·rw [if_pos hd]
   obtain ⟨k,h1,h2,h3⟩:=eZ hd
   have aE:=(List.getElem?_eq_some_iff.1 h2).1
   refine ag (decide_eq_false (show ¬idx d row 0<0 by omega)) ?_
   refine ag (Jg hd) ?_
   have I8:IntKind.wrap .i64 (idx d row 0+1)=((k+1:Nat):Int):=by rw [h1,wrap_small (by omega) (by omega)];rfl
   have VR:(k+1) % row.length<row.length:=Nat.mod_lt _ (by omega)
   have hx:=List.getElem?_eq_getElem VR
   refine aa (show bh row (Int.tmod (IntKind.wrap .i64 (idx d row 0+1)) ((row.length:Nat):Int))=some row[(k+1) % row.length] by rw [I8,uP];exact aD hx) ?_
   rw [h1,Int.toNat_natCast,hx];rfl
  ·rw [if_neg hd]
   exact af (decide_eq_true (mu.2 hd)) rfl
 refine aa key ?_
 rfl
def HF(x:ae):List aj→Option ae
 | []=>none
 | v::r=>if x∈v.2.1 then fa v.2.1 x 1 else HF x r
theorem KY{l:List aj}(h:Rw l){v:aj}{x:ae}(hv:v∈l)(hx:x∈v.2.1):∀r,(∀u∈r,u∈l)→v∈r→HF x r=fa v.2.1 x 1
 | [],_,k=>by cases k
 | u::r,hs,k=>by
  rw [HF]
  by_cases hu:x∈u.2.1
  ·rw [if_pos hu,h.one hv (hs u List.mem_cons_self) hx hu]
  ·rw [if_neg hu]
   rcases List.mem_cons.1 k with e | k
   ·rw [e] at hx;exact absurd hx hu
   ·exact KY h hv hx r (fun w hw=>hs w (List.mem_cons_of_mem _ hw)) k
theorem DL{x:ae}:∀{l:List aj},x∉an l→HF x l=none
 | [],_=>rfl
 | v::r,h=>by
  rw [im,List.mem_append] at h
  rw [HF,if_neg (fun k=>h (.inl k))]
  exact DL fun k=>h (.inr k)
theorem JJ{d:ai}(h:Rw d.1)(x:ae):HF x d.1=jr d x:=by
 by_cases hx:x∈an d.1
 ·obtain ⟨v,hv,kr⟩:=aV.1 hx
  rw [Bz h hv kr]
  exact KY h hv kr d.1 (fun _ k=>k) hv
 ·rw [DL hx]
  unfold jr cS
  rw [Hh hx]
theorem aan(hG:HG G)(d:ai)(x:ae)(hs:Sm d)(h:Rw d.1):FX G 179 xK ((d,x,()),())=some (KI (jr d x),()):=by
 have hv:=hs.v
 rw [←JJ h x]
 refine aC (fn:=Tryz.f179) (hG _ _ rfl) (by kernel_rfl) (by kernel_rfl) ((Zb _ _ _).trans ?_)
 have loop:∀(n i:Nat),i+n=d.1.length→LX G 179 xK Tryz.f179 uI (aX Tryz.prog 179 0) ((d.1,(((d.1.length:Nat):Int),((i:Int),()))),(((x,()),((zD,()),())),()))=some (KI (HF x (d.1.drop i)),()):=by
  intro n
  induction n with
  | zero =>
   intro i hi
   refine aw (j:=0) (by kernel_rfl) ((Kx _ _ _).trans ?_)
   refine ag (decide_eq_false (show ¬((i:Int)<((d.1.length:Nat):Int)) by omega)) ?_
   rw [List.drop_eq_nil_of_le (by omega)];rfl
  | succ n ih =>
   intro i hi
   have aE:i<d.1.length:=by omega
   refine aw (j:=0) (by kernel_rfl) ((Kx _ _ _).trans ?_)
   refine af (ba aE) (aa (aD (List.getElem?_eq_getElem aE)) ?_)
   refine aa (aam hG d.1[i].2.1 x (by have:=hs.r _ (List.getElem_mem aE);omega)) ?_
   rw [List.drop_eq_getElem_cons aE,HF]
   by_cases he:x∈d.1[i].2.1
   ·rw [if_pos he]
    unfold fa
    rw [if_pos he]
    obtain ⟨k,h1,h2,h3⟩:=eZ he
    have hl:=(List.getElem?_eq_some_iff.1 h2).1
    have hm:((idx x d.1[i].2.1 0).toNat+1) % d.1[i].2.1.length<d.1[i].2.1.length:=Nat.mod_lt _ (by omega)
    rw [List.getElem?_eq_getElem hm]
    exact af rfl rfl
   ·rw [if_neg he]
    unfold fa
    rw [if_neg he]
    refine ag rfl ?_
    have:=ih (i+1) (by omega)
    rw [←aO aE (by omega)] at this
    exact this
 have:=loop d.1.length 0 (by omega)
 rw [List.drop_zero] at this
 exact this
theorem at_mem{d:ai}{x:ae}(h:(cS d x).isSome=true):x∈an d.1:=by
 apply Classical.byContradiction
 intro k
 unfold cS at h
 rw [Hh k] at h
 cases h
theorem aao(hG:HG G)(d:ai)(x:ae)(h:Wf d):FX G 176 Dc ((d,x,()),())=some (KI (Fj d x),()):=by
 have hs:=h.sm
 refine aC (fn:=Tryz.f176) (hG _ _ rfl) (by kernel_rfl) (by kernel_rfl) ((Y9 _ _ _).trans ?_)
 refine aa (Ug hG d x hs) ?_
 have h1:(Cu zI (cS d x)).2.1=(cS d x).isSome:=yP _ _
 unfold Fj
 cases ha:(cS d x).isSome
 ·rw [if_neg (by simp)]
  exact aJ (h1.trans ha) rfl
 ·rw [if_pos rfl]
  refine aJ (h1.trans ha) ?_
  refine aa (Ho (hG _ _ rfl) x (h.side (at_mem ha))) ?_
  exact aa (aan hG d (ah x) hs h.rw) rfl
theorem aap(hG:HG G)(d:ai)(hs:Sm d):FX G 171 uy ((d,()),())=some ((dZ d.2,()),()):=by
 have he:=hs.e
 refine aC (fn:=Tryz.f171) (hG _ _ rfl) (by kernel_rfl) (by kernel_rfl) ((Y8 _ _ _).trans ?_)
 have loop:∀(n i:Nat) (out:List ae),i+n=d.2.length→out.length=2 * i→LX G 171 uy Tryz.f171 uF (aX Tryz.prog 171 0) ((d.2,(((d.2.length:Nat):Int),((i:Int),()))),((),(out,())))=some ((out++dZ (d.2.drop i),()),()):=by
  intro n
  induction n with
  | zero =>
   intro i out hi ho
   refine aw (j:=0) (by kernel_rfl) ((Ks _ _ _).trans ?_)
   refine ag (decide_eq_false (show ¬((i:Int)<((d.2.length:Nat):Int)) by omega)) ?_
   rw [List.drop_eq_nil_of_le (by omega)]
   show some ((out,()),())=some ((out++[],()),())
   rw [List.append_nil]
  | succ n ih =>
   intro i out hi ho
   have aE:i<d.2.length:=by omega
   refine aw (j:=0) (by kernel_rfl) ((Ks _ _ _).trans ?_)
   refine af (ba aE) (aa (aD (List.getElem?_eq_getElem aE)) ?_)
   refine aa (Ho (hG _ _ rfl) (d.2[i].1,0) (.inl rfl)) ?_
   refine af (fits (by show out.length+2≤_;omega)) ?_
   have:=ih (i+1) (out++[(d.2[i].1,0),(d.2[i].1,1)]) (by omega) (by simp [ho];omega)
   rw [List.drop_eq_getElem_cons aE]
   rw [←aO aE (by omega),List.append_assoc] at this
   exact this
 exact loop d.2.length 0 [] (by omega) rfl
theorem Qr(hG:HG G)(l:List aj)(hl:l.length≤50000000):FX G 166164 kb ((l,()),())=some ((((al l:Nat):Int),()),()):=by
 refine aC (fn:=Tryz.f164) (hG _ _ rfl) (by kernel_rfl) (by kernel_rfl) ((Pq _ _ _).trans ?_)
 have loop:∀(n i m:Nat),i+n=l.length→m≤i→LX G 166164 kb Tryz.f164 jH (aX Tryz.prog 164 0) (((m:Int),(l,(((l.length:Nat):Int),((i:Int),())))),((),()))=some ((((m+al (l.drop i):Nat):Int),()),()):=by
  intro n
  induction n with
  | zero =>
   intro i m hi hm
   refine aw (j:=0) (by kernel_rfl) ((A9 _ _ _).trans ?_)
   refine ag (decide_eq_false (show ¬((i:Int)<((l.length:Nat):Int)) by omega)) ?_
   rw [List.drop_eq_nil_of_le (by omega)];rfl
  | succ n ih =>
   intro i m hi hm
   have aE:i<l.length:=by omega
   have afF:FX G 165 GH ((l[i],()),())=some ((l[i].2.1.isEmpty,()),()):=by
    refine aC (fn:=Tryz.f165) (hG _ _ rfl) (by kernel_rfl) (by kernel_rfl) ((Y7 _ _ _).trans ?_)
    have:(((l[i].2.1.length:Nat):Int)==0)=l[i].2.1.isEmpty:=by cases l[i].2.1<;>simp;omega
    exact congrArg (fun b:Bool=>some ((b,()),())) this
   refine aw (j:=0) (by kernel_rfl) ((A9 _ _ _).trans ?_)
   refine af (ba aE) (aa (aD (List.getElem?_eq_getElem aE)) ?_)
   refine aa afF ?_
   rw [List.drop_eq_getElem_cons aE]
   unfold al
   rw [List.countP_cons]
   cases hb:l[i].2.1.isEmpty
   ·refine ag rfl ?_
    have:=ih (i+1) m (by omega) (by omega)
    rw [←aO aE (by omega)] at this
    exact this
   ·refine af rfl ?_
    have:=ih (i+1) (m+1) (by omega) (by omega)
    rw [←aO aE (by omega),←aO (i:=m) (n:=l.length) (by omega) (by omega)] at this
    refine this.trans ?_
    refine congrArg (fun q:Nat=>some ((((q:Nat):Int),()),())) ?_
    unfold al
    simp;omega
 have:=loop l.length 0 0 (by omega) (by omega)
 rw [List.drop_zero,Nat.zero_add] at this
 exact this
end Go.Vs
namespace Go.Vs
open Go.Proofs
variable {G:(f:FuncId)→(g:aL)→Option (g.A→Option g.B)}
def Fo(g:List Nat):Prop:=∀(i x:Nat),g[i]? = some x→x≤i
def root(g:List Nat)(i:Nat):Nat :=
 match g[i]? with
 | some x=>if h:x<i then root g x else i
 | none=>i
termination_by i
theorem dw{g:List Nat}{i x:Nat}(h:g[i]? = some x):root g i=if x<i then root g x else i:=by
 rw [root,h];simp
theorem kP{g:List Nat}{i:Nat}(h:g[i]? = none):root g i=i:=by rw [root,h]
theorem KZ(g:List Nat):∀i,root g i≤i:=by
 intro i
 induction i using Nat.strongRecOn with
 | _ i ih =>
  cases h:g[i]? with
  | none=>rw [kP h];exact Nat.le_refl _
  | some x =>
   rw [dw h]
   split
   ·rename_i hx;have:=ih x hx;omega
   ·exact Nat.le_refl _
theorem HH{g:List Nat}(hf:Fo g):∀i,i<g.length→g[root g i]? = some (root g i):=by
 intro i
 induction i using Nat.strongRecOn with
 | _ i ih =>
  intro hi
  have h:=List.getElem?_eq_getElem hi
  rw [dw h]
  split
  ·rename_i hx;exact ih _ hx (by omega)
  ·have:=hf i _ h
   rw [h];congr 1;omega
theorem kQ{g:List Nat}{i:Nat}(h:g[i]? = some i):root g i=i:=by rw [dw h,if_neg (by omega)]
theorem Fo.set{g:List Nat}(hf:Fo g){i y:Nat}(h:y≤i):Fo (g.set i y):=fun j x hj=>by
 rw [List.getElem?_set] at hj
 split at hj
 ·rename_i e;subst e
  split at hj
  ·cases hj;exact h
  ·cases hj
 ·exact hf j x hj
theorem JK{g:List Nat}(hf:Fo g){i x y:Nat}(hi:g[i]? = some x)(hx:g[x]? = some y)(aE:x<i):∀j,root (g.set i y) j=root g j:=by
 have hyx:=hf x y hx
 have mP:=(List.getElem?_eq_some_iff.1 hi).1
 intro j
 induction j using Nat.strongRecOn with
 | _ j ih =>
  by_cases e:j=i
  ·subst e
   have h1:(g.set j y)[j]? = some y:=by rw [List.getElem?_set];simp [mP]
   rw [dw h1,if_pos (by omega),ih y (by omega),dw hi,if_pos aE,dw hx]
   split
   ·rfl
   ·have:y=x:=by omega
    subst this;exact kQ hx
  ·have h1:(g.set i y)[j]? = g[j]? := by rw [List.getElem?_set,if_neg (fun k=>e k.symm)]
   cases h:g[j]? with
   | none=>rw [kP h,kP (h1.trans h)]
   | some z =>
    rw [dw h,dw (h1.trans h)]
    split
    ·rename_i hz;exact ih z hz
    ·rfl
theorem MS{g:List Nat}{a b:Nat}(ha:g[a]? = some a)(hb:g[b]? = some b):∀j,root (g.set (max a b) (min a b)) j=if root g j=max a b then min a b else root g j:=by
 have hm:g[max a b]? = some (max a b):=by rcases Nat.le_total a b with h | h<;>simp [Nat.max_eq_right,Nat.max_eq_left,h,ha,hb]
 have hn:g[min a b]? = some (min a b):=by rcases Nat.le_total a b with h | h<;>simp [Nat.min_eq_right,Nat.min_eq_left,h,ha,hb]
 have hml:=(List.getElem?_eq_some_iff.1 hm).1
 have hle:min a b≤max a b:=by omega
 generalize max a b=M at *
 generalize min a b=m at *
 have aE:∀j,(g.set M m)[j]? = if j=M then some m else g[j]? := fun j=>by
  rw [List.getElem?_set]
  by_cases e:M=j
  ·subst e;simp [hml]
  ·rw [if_neg e,if_neg (fun k=>e k.symm)]
 intro j
 induction j using Nat.strongRecOn with
 | _ j ih =>
  by_cases ej:j=M
  ·subst ej
   have h1:(g.set j m)[j]? = some m:=by rw [aE,if_pos rfl]
   rw [dw h1,kQ hm,if_pos rfl]
   by_cases e:m<j
   ·rw [if_pos e,ih m e,kQ hn,if_neg (by omega)]
   ·rw [if_neg e];omega
  ·have h1:(g.set M m)[j]? = g[j]? := by rw [aE,if_neg ej]
   cases h:g[j]? with
   | none=>rw [kP h,kP (h1.trans h),if_neg ej]
   | some z =>
    rw [dw h,dw (h1.trans h)]
    by_cases hz:z<j
    ·rw [if_pos hz,if_pos hz];exact ih z hz
    ·rw [if_neg hz,if_neg hz,if_neg ej]
def fI(g:List Nat):List Int:=g.map fun n=>((n:Nat):Int)
theorem BJ(g:List Nat):(fI g).length=g.length:=by simp [fI]
theorem tC{g:List Nat}{i x:Nat}(h:g[i]? = some x):(fI g)[Int.toNat (i:Int)]? = some (x:Int):=by simp [fI,h]
theorem Qs(g:List Nat)(i x:Nat):(fI g).set (Int.toNat (i:Int)) (x:Int)=fI (g.set i x):=by simp [fI,List.map_set]
theorem BL{g:List Nat}{i:Nat}(h:i<g.length):(decide ((0:Int)≤(i:Int))&&decide ((i:Int)<(((fI g).length:Nat):Int)))=true:=by
 rw [BJ];exact dM (jf i) (ba h)
structure DM(g g':List Nat):Prop where
 f:Fo g'
 n:g'.length=g.length
 r:∀j,root g' j=root g j
theorem DM.trans{a b c:List Nat}(h:DM a b)(k:DM b c):DM a c:=⟨k.f,k.n.trans h.n,fun j=>(k.r j).trans (h.r j)⟩
theorem Qt(hG:HG G)(g:List Nat)(i:Nat)(hf:Fo g)(hi:i<g.length):∃g',DM g g'∧FX G 181 qu (((i:Int),()),(fI g,()))=some ((((root g i:Nat):Int),()),(fI g',())):=by
 have loop:∀(i:Nat) (g:List Nat),Fo g→i<g.length→∃g',DM g g'∧LX G 181 qu Tryz.f181 ri (aX Tryz.prog 181 0) (((i:Int),()),((),(fI g,())))=some ((((root g i:Nat):Int),()),(fI g',())):=by
  intro i
  induction i using Nat.strongRecOn with
  | _ i ih =>
   intro g hf hi
   have h:=List.getElem?_eq_getElem hi
   generalize g[i]=x at h
   have hxi:=hf i x h
   by_cases hx:x<i
   ·have h2:=List.getElem?_eq_getElem (show x<g.length by omega)
    generalize g[x]=y at h2
    have hyx:=hf x y h2
    have hs:=JK hf h h2 hx
    have hf2:Fo (g.set i y):=hf.set (by omega)
    obtain ⟨g',h3,h4⟩:=ih y (by omega) (g.set i y) hf2 (by rw [List.length_set];omega)
    refine ⟨g',⟨h3.f,by rw [h3.n,List.length_set],fun j=>(h3.r j).trans (hs j)⟩,?_⟩
    refine aw (j:=0) (by kernel_rfl) ((Ky _ _ _).trans ?_)
    refine af (BL hi) (aa (tC h) ?_)
    refine af (show (((x:Nat):Int) != (i:Int))=true by rw [bne_iff_ne];omega) ?_
    refine af (BL hi) (aa (tC h) ?_)
    refine af (BL (show x<g.length by omega)) (aa (tC h2) ?_)
    refine af (BL hi) (aa (tC h) ?_)
    have afG:=Qs g i y
    have key:∀f:List Int,f=fI (g.set i y)→cond ((decide ((0:Int)≤(i:Int)))&&(decide ((i:Int)<(((List.length f):Nat):Int)))) (((f)[(Int.toNat (i:Int))]?).bind fun (y5:Int)=>LX G 181 qu Tryz.f181 ri (aX Tryz.prog 181 0) ((y5,()),((),(f,())))) none=some ((((root g i:Nat):Int),()),(fI g',())):=fun f hf=>by
     subst hf
     refine af (BL (by rw [List.length_set];exact hi)) (aa (tC (x:=y) (by rw [List.getElem?_set];simp [hi])) ?_)
     rw [h4,hs y,dw h,if_pos hx,dw h2]
     by_cases hy:y<x
     ·rw [if_pos hy]
     ·have:y=x:=by omega
      subst this;rw [if_neg (by omega),kQ h2]
    exact key _ afG
   ·have:x=i:=by omega
    subst this
    refine ⟨g,⟨hf,rfl,fun _=>rfl⟩,?_⟩
    refine aw (j:=0) (by kernel_rfl) ((Ky _ _ _).trans ?_)
    refine af (BL hi) (aa (tC h) ?_)
    rw [kQ h]
    exact ag (by simp) rfl
 obtain ⟨g',h1,h2⟩:=loop i g hf hi
 exact ⟨g',h1,aC (fn:=Tryz.f181) (hG _ _ rfl) (by kernel_rfl) (by kernel_rfl) ((Ze _ _ _).trans h2)⟩
def BM(a b r:Nat):Nat:=if r=max a b then min a b else r
theorem aaq(hG:HG G)(g:List Nat)(i k:Nat)(hf:Fo g)(hi:i<g.length)(hk:k<g.length):∃g',Fo g'∧g'.length=g.length∧(∀j,root g' j=BM (root g i) (root g k) (root g j))∧FX G 180 GI (((i:Int),((k:Int),())),(fI g,()))=some ((),(fI g',())):=by
 obtain ⟨g1,h1,e1⟩:=Qt hG g i hf hi
 obtain ⟨g2,h2,e2⟩:=Qt hG g1 k h1.f (by rw [h1.n];exact hk)
 rw [h1.r k] at e2
 have hs:=h1.trans h2
 have ra:g2[root g i]? = some (root g i):=by
  have:=HH hs.f i (by rw [hs.n];exact hi)
  rw [hs.r i] at this;exact this
 have rb:g2[root g k]? = some (root g k):=by
  have:=HH hs.f k (by rw [hs.n];exact hk)
  rw [hs.r k] at this;exact this
 have hal:=(List.getElem?_eq_some_iff.1 ra).1
 have hbl:=(List.getElem?_eq_some_iff.1 rb).1
 have hm:max (root g i) (root g k)<g2.length:=by omega
 refine ⟨g2.set (max (root g i) (root g k)) (min (root g i) (root g k)),hs.f.set (by omega),by rw [List.length_set,hs.n],fun j=>by rw [MS ra rb j,hs.r j];rfl,?_⟩
 refine aC (fn:=Tryz.f180) (hG _ _ rfl) (by kernel_rfl) (by kernel_rfl) ((Zd _ _ _).trans ?_)
 refine aa e1 (aa e2 ?_)
 have em:(max ((root g i:Nat):Int) ((root g k:Nat):Int):Int)=((max (root g i) (root g k):Nat):Int):=by omega
 have en:(min ((root g i:Nat):Int) ((root g k:Nat):Int):Int)=((min (root g i) (root g k):Nat):Int):=by omega
 have key:∀m n:Int,m=((max (root g i) (root g k):Nat):Int)→n=((min (root g i) (root g k):Nat):Int)→cond ((decide ((0:Int)≤m))&&(decide (m<(((List.length (fI g2)):Nat):Int)))) (((fI g2)[(Int.toNat m)]?).bind fun (y3:Int)=>(some ((),((List.set (fI g2) (Int.toNat m) n),())):Option (Unit×((List Int)×Unit)))) none=some ((),(fI (g2.set (max (root g i) (root g k)) (min (root g i) (root g k))),())):=fun m n RH Ij=>by
  subst RH Ij
  refine af (BL hm) (aa (tC (List.getElem?_eq_getElem hm)) ?_)
  rw [Qs]
 exact key _ _ em en
end Go.Vs
namespace Go.Vs
open Go.Proofs
variable {G:(f:FuncId)→(g:aL)→Option (g.A→Option g.B)}
theorem JM{α:Type}(x:ae)(es:List (ae×α)):sI bg x es=es.findIdx? fun e=>decide (e.1=x):=by
 show List.findIdx? (fun e:ae×α=>((x.1.1==e.1.1.1)&&(x.1.2==e.1.1.2))&&(x.2==e.1.2)) es=_
 congr 1
 funext e
 rw [uN x e.1]
 by_cases h:x=e.1
 ·rw [decide_eq_true h,decide_eq_true h.symm]
 ·rw [decide_eq_false h,decide_eq_false (fun k=>h k.symm)]
def fg{β α:Type}[DecidableEq β](x:β):List (β×α)→Option α
 | []=>none
 | e::r=>if e.1=x then some e.2 else fg x r
theorem JN{β α:Type}[DecidableEq β](x:β):∀es:List (β×α),((es.findIdx? fun e=>decide (e.1=x)).bind fun i=>(es[i]?).map (·.2))=fg x es
 | []=>rfl
 | e::r=>by
  have ih:=JN x r
  rw [List.findIdx?_cons,fg]
  by_cases h:e.1=x
  ·rw [if_pos (decide_eq_true h),if_pos h];rfl
  ·rw [if_neg (by simpa using h),if_neg h,←ih]
   cases r.findIdx? fun e=>decide (e.1=x)<;>simp
theorem Qu{α:Type}(x:ae)(es:List (ae×α)):iL bg x es=fg x es:=by
 have:=JN x es
 rw [←JM] at this
 exact this
theorem Qv{α:Type}{x:ae}(v:α){es:List (ae×α)}(h:x∉es.map (·.1)):lQ bg x v es=es++[(x,v)]:=by
 have e:sI bg x es=none:=by
  rw [JM,List.findIdx?_eq_none_iff]
  intro q hq
  exact decide_eq_false fun k=>h (List.mem_map.2 ⟨q,hq,k⟩)
 unfold lQ
 split
 ·rename_i i k;rw [e] at k;cases k
 ·rfl
theorem HI{β α:Type}[DecidableEq β]{x:β}{v:α}:∀{es:List (β×α)},(es.map (·.1)).Nodup→(x,v)∈es→fg x es=some v
 | [],_,h=>by cases h
 | e::r,hn,h=>by
  simp only [List.map_cons,List.nodup_cons] at hn
  rw [fg]
  rcases List.mem_cons.1 h with e1 | h
  ·subst e1;rw [if_pos rfl]
  ·rw [if_neg (fun k=>hn.1 (by rw [k];exact List.mem_map.2 ⟨_,h,rfl⟩))]
   exact HI hn.2 h
def gS:List aj→Nat→List (ae×Int)
 | [],_=>[]
 | v::r,i=>v.2.1.map (fun x=>(x,(i:Int)))++gS r (i+1)
theorem wQ:∀(l:List aj) (i:Nat),(gS l i).map (·.1)=an l
 | [],_=>rfl
 | v::r,i=>by
  have e:(v.2.1.map fun x=>(x,(i:Int))).map (·.1)=v.2.1:=by rw [List.map_map];exact List.map_id _
  rw [gS,im,List.map_append,wQ r,e]
theorem HJ:∀(a b:List aj) (i:Nat),gS (a++b) i=gS a i++gS b (i+a.length)
 | [],b,i=>rfl
 | v::r,b,i=>by
  rw [List.cons_append,gS,gS,HJ r b,List.append_assoc]
  congr 3
  simp;omega
theorem HK{x:ae}{a:Int}:∀{l:List aj} {i:Nat},(x,a)∈gS l i→∃k v,l[k]? = some v∧a=((i+k:Nat):Int)∧x∈v.2.1
 | [],i,h=>by cases h
 | v::r,i,h=>by
  rw [gS] at h
  rcases List.mem_append.1 h with h | h
  ·obtain ⟨y,hy,e⟩:=List.mem_map.1 h
   cases e
   exact ⟨0,v,rfl,rfl,hy⟩
  ·obtain ⟨k,u,h1,h2,h3⟩:=HK h
   exact ⟨k+1,u,by simpa using h1,by rw [h2];congr 1;omega,h3⟩
theorem K0{x:ae}:∀{l:List aj} {i k:Nat} {v:aj},l[k]? = some v→x∈v.2.1→(x,((i+k:Nat):Int))∈gS l i
 | v::r,i,0,u,h,hx=>by
  simp at h;subst h
  rw [gS];exact List.mem_append_left _ (List.mem_map.2 ⟨x,hx,rfl⟩)
 | v::r,i,k+1,u,h,hx=>by
  rw [gS]
  refine List.mem_append_right _ ?_
  have:=K0 (i:=i+1) (k:=k) (by simpa using h) hx
  rwa [show i+1+k=i+(k+1) by omega] at this
theorem Qw(i:Nat):fI (List.range i)++[(i:Int)]=fI (List.range (i+1)):=by rw [List.range_succ];simp [fI]
section
variable {d:ai} {y:gP.B}
theorem SL(h:Wf d){i:Nat}(hi:i<d.1.length){f:List Int}{nn:Int}
  (next:LX G 177 gP Tryz.f177 rh (aX Tryz.prog 177 0) ((d.1,(nn,((IntKind.wrap .i64 ((i:Int)+1)),()))),((),(f,(gS (d.1.take (i+1)) 0,()))))=some y):∀(n j:Nat) (es:List (ae×Int)),j+n=d.1[i].2.1.length→es=gS (d.1.take i) 0++(d.1[i].2.1.take j).map (fun x=>(x,(i:Int))) →
  LX G 177 gP Tryz.f177 uG (aX Tryz.prog 177 1) (((i:Int),(d.1,(nn,((i:Int),(d.1[i].2.1,(((d.1[i].2.1.length:Nat):Int),((j:Int),()))))))),((),(f,(es,()))))=some y:=by
 have hr:=h.wM d.1[i] (List.getElem_mem hi)
 have et:d.1.take (i+1)=d.1.take i++[d.1[i]]:=(List.take_append_getElem hi).symm
 have ev:gS (d.1.take (i+1)) 0=gS (d.1.take i) 0++d.1[i].2.1.map (fun x=>(x,(i:Int))):=by
  rw [et,HJ]
  have:(d.1.take i).length=i:=by rw [List.length_take];omega
  rw [this,Nat.zero_add]
  congr 1
  show d.1[i].2.1.map (fun x=>(x,(i:Int)))++[]=_
  rw [List.append_nil]
 have nd:(an (d.1.take i)++d.1[i].2.1).Nodup:=by
  have h1:=h.rw.n
  rw [←List.take_append_drop (i+1) d.1,et,nN,nN] at h1
  have e2:an [d.1[i]]=d.1[i].2.1:=by rw [im];exact List.append_nil _
  rw [e2] at h1
  exact (List.nodup_append.1 h1).1
 intro n
 induction n with
 | zero =>
  intro j es hj he
  refine aw (j:=1) (by kernel_rfl) ((Ku _ _ _).trans ?_)
  refine ag (decide_eq_false (show ¬((j:Int)<((d.1[i].2.1.length:Nat):Int)) by omega)) ?_
  have e:d.1[i].2.1.take j=d.1[i].2.1:=List.take_of_length_le (by omega)
  rw [e,←ev] at he
  subst he
  exact next
 | succ n ih =>
  intro j es hj he
  have aE:j<d.1[i].2.1.length:=by omega
  refine aw (j:=1) (by kernel_rfl) ((Ku _ _ _).trans ?_)
  refine af (ba aE) (aa (aD (List.getElem?_eq_getElem aE)) ?_)
  have Cb:d.1[i].2.1[j]∉es.map (·.1):=by
   have e3:((d.1[i].2.1.take j).map fun x=>(x,(i:Int))).map (·.1)=d.1[i].2.1.take j:=by rw [List.map_map];exact List.map_id _
   rw [he,List.map_append,wQ,e3,List.mem_append]
   rintro (k | k)
   ·exact (List.nodup_append.1 nd).2.2 _ k _ (List.getElem_mem aE) rfl
   ·obtain ⟨q,hq,he⟩:=List.getElem_of_mem k
    have hq1:q<j:=by rw [List.length_take] at hq;omega
    rw [List.getElem_take] at he
    have:=(List.getElem_inj (List.nodup_append.1 nd).2.1).1 he
    omega
  have:=ih (j+1) (lQ bg d.1[i].2.1[j] (i:Int) es) (by omega) (by
   rw [Qv _ Cb,he,←List.take_append_getElem aE,List.map_append,List.append_assoc];rfl)
  rw [←aO aE (by omega)] at this
  exact this
theorem SM(h:Wf d)
  (next:LX G 177 gP Tryz.f177 oL (aX Tryz.prog 177 2) ((gS d.1 0,()),((),(fI (List.range d.1.length),((none,gS d.1 0),()))))=some y):∀(n i:Nat),i+n=d.1.length →
  LX G 177 gP Tryz.f177 rh (aX Tryz.prog 177 0) ((d.1,(((d.1.length:Nat):Int),((i:Int),()))),((),(fI (List.range i),(gS (d.1.take i) 0,()))))=some y:=by
 have hn:=h.nv
 intro n
 induction n with
 | zero =>
  intro i hi
  have e:i=d.1.length:=by omega
  subst e
  refine aw (j:=0) (by kernel_rfl) ((Kt _ _ _).trans ?_)
  refine ag (decide_eq_false (show ¬(((d.1.length:Nat):Int)<((d.1.length:Nat):Int)) by omega)) ?_
  rw [List.take_length]
  exact next
 | succ n ih =>
  intro i hi
  have aE:i<d.1.length:=by omega
  refine aw (j:=0) (by kernel_rfl) ((Kt _ _ _).trans ?_)
  refine af (ba aE) (aa (aD (List.getElem?_eq_getElem aE)) ?_)
  refine af (fits (by show (fI (List.range i)).length+1≤_;rw [BJ];simp;omega)) ?_
  have nx:=ih (i+1) (by omega)
  rw [←aO aE (by omega),←Qw] at nx
  exact SL (G:=G) h aE nx d.1[i].2.1.length 0 _ (by omega) (by simp)
end
end Go.Vs
namespace Go.Vs
open Go.Proofs
variable {G:(f:FuncId)→(g:aL)→Option (g.A→Option g.B)}
theorem BN(a b:Nat):BM a b a=min a b∧BM a b b=min a b:=by
 unfold BM
 constructor<;>split<;>omega
structure FoI(d:ai)(rem:List (ae×Int))(g:List Nat):Prop where
 f:Fo g
 n:g.length=d.1.length
 c:∀i,i<d.1.length→cj d (cF d i) (cF d (root g i))
 p:∀(z:ae) (i k:Nat),(z,(i:Int))∈gS d.1 0→(ah z,(k:Int))∈gS d.1 0→(z,(i:Int))∉rem→root g i=root g k
theorem uZ{d:ai}(h:Wf d){z:ae}{a:Int}(hm:(z,a)∈gS d.1 0):∃i:Nat,i<d.1.length∧a=(i:Int)∧z∈an d.1∧cS d z=some (cF d i):=by
 obtain ⟨k,v,h1,h2,h3⟩:=HK hm
 rw [Nat.zero_add] at h2
 have hv:=List.mem_of_getElem? h1
 refine ⟨k,(List.getElem?_eq_some_iff.1 h1).1,h2,aV.2 ⟨v,hv,h3⟩,?_⟩
 rw [mA h1]
 exact dN h.rw hv h3
theorem JO{d:ai}(h:Wf d){z:ae}(hz:z∈an d.1):∃i:Nat,(z,(i:Int))∈gS d.1 0:=by
 obtain ⟨v,hv,hx⟩:=aV.1 hz
 obtain ⟨k,hk⟩:=List.getElem?_of_mem hv
 have:=K0 (i:=0) hk hx
 rw [Nat.zero_add] at this
 exact ⟨k,this⟩
theorem K1{d:ai}(h:Wf d){z:ae}{a:Int}(hm:(z,a)∈gS d.1 0):iL bg z (gS d.1 0)=some a:=by
 rw [Qu]
 refine HI ?_ hm
 rw [wQ];exact h.rw.n
theorem FoI.same{d:ai}(h:Wf d){g:List Nat}(hg:FoI d [] g){a b:ID}(k:cj d a b):∀i j,i<d.1.length→j<d.1.length→cF d i=a→cF d j=b→root g i=root g j:=by
 induction k with
 | refl=>intro i j hi hj h1 h2;rw [jl h.sv hi hj (h1.trans h2.symm)]
 | tail _ s ih =>
  intro i j hi hj h1 h2
  obtain ⟨z,hz,s1,s2⟩:=s
  obtain ⟨m,hm⟩:=JO h hz
  obtain ⟨q,hq⟩:=JO h (h.other hz)
  obtain ⟨m',m1,m2,_,m3⟩:=uZ h hm
  obtain ⟨q',q1,q2,_,q3⟩:=uZ h hq
  have em:m'=m:=by omega
  have eq:q'=q:=by omega
  subst em;subst eq
  rw [s1] at m3;rw [s2] at q3
  have r1:=ih i m' hi m1 h1 (Option.some.inj m3).symm
  have r2:=hg.p z m' q' hm hq (by simp)
  have ej:q'=j:=jl h.sv q1 hj ((Option.some.inj q3).symm.trans h2.symm)
  rw [r1,r2,ej]
theorem FoI.can{d:ai}(h:Wf d){g:List Nat}(hg:FoI d [] g):HB d (fI ((List.range d.1.length).map (root g))):=by
 have mK:∀i,i<d.1.length→(fI ((List.range d.1.length).map (root g))).getD i 0=((root g i:Nat):Int):=fun i hi=>by
  unfold fI;simp [List.getD,hi]
 refine ⟨⟨by rw [BJ];simp,fun i hi=>⟨root g i,KZ g i,mK i hi,hg.c i hi⟩⟩,fun i hi j hj k => ?_⟩
 rw [mK i hi,hg.same h k i j hi hj rfl rfl]
 have:=KZ g j
 omega
theorem SO(hG:HG G){d:ai}(h:Wf d){g:List Nat}:∀(n i:Nat) (g':List Nat),i+n=d.1.length→Fo g'→g'.length=d.1.length→(∀j,root g' j=root g j) →
  LX G 177 gP Tryz.f177 uH (aX Tryz.prog 177 3) ((((d.1.length:Nat):Int),((i:Int),())),((),(fI g',(fI ((List.range i).map (root g)),()))))=some ((fI ((List.range d.1.length).map (root g)),()),()):=by
 have Ny:=h.nv
 intro n
 induction n with
 | zero =>
  intro i g' hi h1 h2 h3
  have e:i=d.1.length:=by omega
  subst e
  refine aw (j:=3) (by kernel_rfl) ((Kw _ _ _).trans ?_)
  exact ag (decide_eq_false (show ¬(((d.1.length:Nat):Int)<((d.1.length:Nat):Int)) by omega)) rfl
 | succ n ih =>
  intro i g' hi h1 h2 h3
  have aE:i<d.1.length:=by omega
  obtain ⟨g2,s,e⟩:=Qt hG g' i h1 (by omega)
  refine aw (j:=3) (by kernel_rfl) ((Kw _ _ _).trans ?_)
  refine af (ba aE) (aa e ?_)
  refine af (fits (by show (fI _).length+1≤_;rw [BJ];simp;omega)) ?_
  have:=ih (i+1) g2 (by omega) s.f (by rw [s.n,h2]) (fun j=>(s.r j).trans (h3 j))
  have e2:fI ((List.range (i+1)).map (root g))=fI ((List.range i).map (root g))++[((root g' i:Nat):Int)]:=by
   rw [List.range_succ,h3 i];simp [fI]
  rw [e2,←aO aE (by omega)] at this
  exact this
theorem SP(hG:HG G){d:ai}(h:Wf d):∀(n:Nat) (rem:List (ae×Int)) (g:List Nat) (o:Option (ae×Int)),rem.length=n→(∀e∈rem,e∈gS d.1 0)→FoI d rem g →
  LX G 177 gP Tryz.f177 oL (aX Tryz.prog 177 2) ((gS d.1 0,()),((),(fI g,((o,rem),()))))=some ((labels d,()),()):=by
 intro n
 induction n with
 | zero =>
  intro rem g o hn hr hg
  have e:rem=[]:=List.eq_nil_of_length_eq_zero hn
  subst e
  refine aw (j:=2) (by kernel_rfl) ((Kv _ _ _).trans ?_)
  refine af rfl ?_
  have:=SO (G:=G) hG h (g:=g) d.1.length 0 g (by omega) hg.f hg.n (fun _=>rfl)
  rw [(hg.can h).uniq h (dV h)] at this
  have e2:((fI g).length:Int)=((d.1.length:Nat):Int):=by rw [BJ,hg.n]
  rw [←e2] at this
  exact this
 | succ n ih =>
  intro rem g o hn hr hg
  refine aw (j:=2) (by kernel_rfl) ((Kv _ _ _).trans ?_)
  refine ag (show rem.isEmpty=false by cases rem with | nil=>simp at hn | cons _ _=>rfl) ?_
  refine mi (show 0<rem.length by omega) fun j hj => ?_
  have hj':j<rem.length:=hj
  refine aa (List.getElem?_eq_getElem hj') ?_
  have hm:=hr _ (List.getElem_mem hj')
  generalize he:rem[j]=e at hm
  obtain ⟨z,a⟩:=e
  obtain ⟨i,hi,ha,hz,haz⟩:=uZ h hm
  subst ha
  obtain ⟨k,hk⟩:=JO h (h.other hz)
  obtain ⟨k',vg,ek,_,hak⟩:=uZ h hk
  have ek':k'=k:=by omega
  subst ek'
  refine aa (Ho (hG _ _ rfl) z (h.side hz)) ?_
  have mK:iL bg (ah z) (gS d.1 0)=some (k':Int):=K1 h hk
  refine af (show (iL bg (ah z) (gS d.1 0)).isSome=true by rw [mK];rfl) ?_
  obtain ⟨g',h1,h2,h3,h4⟩:=aaq hG g i k' hg.f (by rw [hg.n];exact hi) (by rw [hg.n];exact vg)
  refine aa (a:=((),(fI g',()))) (by
   have:(iL bg (ah z) (gS d.1 0)).getD (0:Int)=(k':Int):=by rw [mK];rfl
   rw [←this] at h4
   exact h4) ?_
  have afI:xW d (cF d i) (cF d k'):=⟨z,hz,haz,hak⟩
  have cij:cj d (cF d (root g i)) (cF d (root g k')):=((hg.c i hi).symm h).trans (afI.conn.trans (hg.c k' vg))
  refine ih (rem.eraseIdx j) g' _ (by rw [List.length_eraseIdx,if_pos hj'];omega) (fun e he=>hr e (List.mem_of_mem_eraseIdx he)) ⟨h1,h2.trans hg.n,fun q hq => ?_,fun y p q hp hq hy => ?_⟩
  ·rw [h3 q]
   unfold BM
   split
   ·rename_i e
    refine (hg.c q hq).trans ?_
    rw [e]
    rcases Nat.le_total (root g i) (root g k') with hle | hle
    ·rw [Nat.max_eq_right hle,Nat.min_eq_left hle];exact cij.symm h
    ·rw [Nat.max_eq_left hle,Nat.min_eq_right hle];exact cij
   ·exact hg.c q hq
  ·rw [h3 p,h3 q]
   by_cases lO:(y,(p:Int))∈rem
   ·
    have e:(y,(p:Int))=(z,(i:Int)):=by
     apply Classical.byContradiction
     intro ne
     apply hy
     rw [List.mem_eraseIdx_iff_getElem]
     obtain ⟨t,ht,hte⟩:=List.getElem_of_mem lO
     refine ⟨t,ht,fun k => ?_,hte⟩
     subst k
     exact ne (hte.symm.trans he)
    have e1:y=z:=congrArg Prod.fst e
    have e2:p=i:=by have:=congrArg Prod.snd e;simp at this;omega
    subst e1;subst e2
    have h5:=K1 h hq
    rw [mK] at h5
    have e3:q=k':=by have:=Option.some.inj h5;omega
    subst e3
    rw [(BN _ _).1,(BN _ _).2]
   ·rw [hg.p y p q hp hq lO]
theorem JP(n:Nat):∀i,root (List.range n) i=i:=fun i=>by
 cases h:(List.range n)[i]? with
 | none=>exact kP h
 | some x =>
  have:x=i:=by rw [List.getElem?_range (by have:=(List.getElem?_eq_some_iff.1 h).1;simpa using this)] at h;exact (Option.some.inj h).symm
  subst this
  exact kQ h
theorem aas(hG:HG G)(d:ai)(h:Wf d):FX G 177 gP ((d,()),())=some ((labels d,()),()):=by
 refine aC (fn:=Tryz.f177) (hG _ _ rfl) (by kernel_rfl) (by kernel_rfl) ((Za _ _ _).trans ?_)
 refine SM (G:=G) h ?_ d.1.length 0 (by omega)
 refine SP hG h _ (gS d.1 0) (List.range d.1.length) none rfl (fun _ k=>k) ⟨fun i x hx => ?_,by simp,fun i hi => ?_,fun z i k h1 h2 h3=>absurd h1 h3⟩
 ·have:=(List.getElem?_eq_some_iff.1 hx).1
  rw [List.getElem?_range (by simpa using this)] at hx
  have:=Option.some.inj hx;omega
 ·rw [JP];exact .refl _
end Go.Vs
namespace Go.Vs
open Go.Proofs
variable {G:(f:FuncId)→(g:aL)→Option (g.A→Option g.B)}
structure PG(G:(f:FuncId)→(g:aL)→Option (g.A→Option g.B)):Prop where
 h:HG G
 f:∀d,Wf d→FX G 166 xI ((d,()),())=some ((bK d,()),())
 c:∀d,Wf d→FX G 167 xJ ((d,()),())=some ((eC d,()),())
theorem aat(hp:PG G)(d:ai)(h:Wf d):FX G 153 GF ((d,()),())=some ((((d.1.length:Nat):Int),(((d.2.length:Nat):Int),(((ft d:Nat):Int),(eC d,())))),()):=by
 have hn:=h.nv
 have hf:=uY h
 have ha:al d.1≤d.1.length:=List.countP_le_length
 refine aC (fn:=Tryz.f153) (hp.h _ _ rfl) (by kernel_rfl) (by kernel_rfl) ((Y3 _ _ _).trans ?_)
 refine aa (Qr hp.h d.1 (by omega)) ?_
 refine aa (hp.f d h) (aa (hp.c d h) ?_)
 have e:IntKind.wrap .i64 ((((bK d).length:Nat):Int)+((al d.1:Nat):Int))=((ft d:Nat):Int):=by
  rw [wrap_small (by omega) (by omega)];rfl
 exact congrArg (fun n:Int=>some ((((d.1.length:Nat):Int),(((d.2.length:Nat):Int),(n,(eC d,())))),())) e
theorem aau(hp:PG G)(d:ai)(h:Wf d):FX G 136 GA ((d,()),())=some ((bS d,()),()):=by
 have hn:=h.nv;have bc:=h.ne
 have hf:=uY h
 have ha:al d.1≤d.1.length:=List.countP_le_length
 refine aC (fn:=Tryz.f136) (hp.h _ _ rfl) (by kernel_rfl) (by kernel_rfl) ((YS _ _ _).trans ?_)
 refine aa (aat hp d h) (ag rfl ?_)
 have hr:=ki h (dV h)
 obtain ⟨k,e1,e2⟩:=BH h hr
 have ec:=rG h
 have Ot:(ku d (labels d)).length≤d.1.length:=by
  unfold ku
  rw [List.length_map]
  refine Nat.le_trans (List.length_filter_le _ _) ?_
  simp
 have Ya:ft d≤80+d.1.length:=by unfold ft;omega
 refine congrArg (fun n:Int=>some ((n,()),())) ?_
 show IntKind.wrap .i64 (eC d - IntKind.wrap .i64 (Int.tdiv (IntKind.wrap .i64 ((IntKind.wrap .i64 (((d.1.length:Nat):Int) - ((d.2.length:Nat):Int)))+((ft d:Nat):Int))) 2))=bS d
 rw [e1,ec]
 have hk:(k:Int)≤1000:=by omega
 rw [wrap_small (n:=((d.1.length:Nat):Int) - ((d.2.length:Nat):Int)) (by omega) (by omega)]
 rw [wrap_small (n:=((d.1.length:Nat):Int) - ((d.2.length:Nat):Int)+((ft d:Nat):Int)) (by omega) (by omega)]
 have e3:((d.1.length:Nat):Int) - ((d.2.length:Nat):Int)+((ft d:Nat):Int)=2 * ((((ku d (labels d)).length:Nat):Int) - (k:Int)):=by omega
 rw [e3,Int.mul_tdiv_cancel_left _ (by decide)]
 rw [wrap_small (n:=(((ku d (labels d)).length:Nat):Int) - (k:Int)) (by omega) (by omega)]
 rw [wrap_small (by omega) (by omega)]
 omega
theorem SQ(hp:PG G):JI G:=fun d h=>by
 refine aC (fn:=Tryz.f114) (hp.h _ _ rfl) (by kernel_rfl) (by kernel_rfl) ((YB _ _ _).trans ?_)
 refine aa (aau hp d h) ?_
 refine congrArg (fun b:Bool=>some ((b,()),())) ?_
 show (bS d==0)=decide (bS d=0)
 rw [Bool.eq_iff_iff];simp
end Go.Vs
