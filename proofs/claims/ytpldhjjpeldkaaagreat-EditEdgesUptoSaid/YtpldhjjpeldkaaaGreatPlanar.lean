/- What the program computes of faces, parts and whether a diagram lies in the plane. -/
import Derived.Test.YtpldhjjpeldkaaaGreatSplits
import Derived.Test.YtpldhjjpeldkaaaGreatEuler
set_option linter.unusedVariables false
set_option linter.unusedSimpArgs false
namespace Go.Vs
open Go.Proofs
variable {G:(f:FuncId)→(g:aL)→Option (g.A→Option g.B)}
theorem KP(w:ag)(r:List ag)(x:ID):aQ (w::r) x=if w.1=x then some w else aQ r x:=by
 unfold aQ;rw[List.find?_cons];by_cases h:w.1=x<;>simp[h]
theorem RV(hG:HG G)(l:List ag)(x:ID)(hl:l.length≤1073741824):FX G 151149 kS ((l,x,()),())=some (oH zV (aQ l x),()):=by
 refine aA (fn:=Tryz.f149) (hG _ _ rfl) (by kernel_rfl) (by kernel_rfl) ((QP _ _ _).trans ?_)
 have loop:∀(n i:Nat),i+n=l.length→LX G 151149 kS Tryz.f149 mB (aY Tryz.prog 149 0) ((l,(((l.length:Nat):Int),((i:Int),()))),(((x,()),(((0:Int),((0:Int),(([]:List ab),(e0,((0:Int),()))))),())),()))=some (oH zV (aQ (l.drop i) x),()):=by
  intro n
  induction n with
  |zero =>
   intro i hi
   refine aB (j:=0) (by kernel_rfl) ((B9 _ _ _).trans ?_)
   refine aj (decide_eq_false (show ¬((i:Int)<((l.length:Nat):Int)) by omega)) ?_
   rw[List.drop_eq_nil_of_le (by omega)];rfl
  |succ n ih =>
   intro i hi
   have aM:i<l.length:=by omega
   have ahi:FX G 150 H4 ((l[i],()),())=some ((l[i].1,()),()):=aA (fn:=Tryz.f150) (hG _ _ rfl) (by kernel_rfl) (by kernel_rfl) (aaw _ _ _)
   refine aB (j:=0) (by kernel_rfl) ((B9 _ _ _).trans ?_)
   refine ae (bm aM) (aa (aR (List.getElem?_eq_getElem aM)) ?_)
   refine aa ahi ?_
   rw[List.drop_eq_getElem_cons aM,KP]
   by_cases he:l[i].1=x
   ·rw[if_pos he]
    exact ae ((jT l[i].1 x).trans (decide_eq_true he)) rfl
   ·rw[if_neg he]
    refine aj ((jT l[i].1 x).trans (decide_eq_false he)) ?_
    have:=ih (i+1) (by omega)
    rw[←aN aM hl]at this
    exact this
 have:=loop l.length 0 (by omega)
 rw[List.drop_zero]at this
 exact this
theorem abL(hG:HG G)(d:ai)(x:ID)(hs:Sm d):FX G 131 HY ((d,x,()),())=some (oH zV (bg d x),()):=by
 have hv:=hs.v
 refine aA (fn:=Tryz.f131) (hG _ _ rfl) (by kernel_rfl) (by kernel_rfl) ((aaj _ _ _).trans ?_)
 refine aa (RV hG d.1 x (by omega)) ?_
 unfold bg
 cases hf:aQ d.1 x with
 |none=>exact aa (XB (hG _ _ rfl) [] (by simp)) rfl
 |some v=>exact aa (XB (hG _ _ rfl) v.2.1 (hs.r v (fw hf))) rfl
theorem RW(w:ag)(r:List ag)(x:ab):C7 (w::r) x=if x∈w.2.1 then some w.1 else C7 r x:=by
 unfold C7;rw[List.find?_cons];by_cases h:x∈w.2.1<;>simp[h]
theorem V9(hG:HG G)(d:ai)(x:ab)(hs:Sm d):FX G 151 vJ ((d,x,()),())=some (oH zI (bY d x),()):=by
 have hv:=hs.v
 refine aA (fn:=Tryz.f151) (hG _ _ rfl) (by kernel_rfl) (by kernel_rfl) ((aax _ _ _).trans ?_)
 have loop:∀(n i:Nat),i+n=d.1.length→LX G 151 vJ Tryz.f151 vT (aY Tryz.prog 151 0) ((d.1,(((d.1.length:Nat):Int),((i:Int),()))),(((x,()),((zI,()),())),()))=some (oH zI (C7 (d.1.drop i) x),()):=by
  intro n
  induction n with
  |zero =>
   intro i hi
   refine aB (j:=0) (by kernel_rfl) ((LF _ _ _).trans ?_)
   refine aj (decide_eq_false (show ¬((i:Int)<((d.1.length:Nat):Int)) by omega)) ?_
   rw[List.drop_eq_nil_of_le (by omega)];rfl
  |succ n ih =>
   intro i hi
   have aM:i<d.1.length:=by omega
   refine aB (j:=0) (by kernel_rfl) ((LF _ _ _).trans ?_)
   refine ae (bm aM) (aa (aR (List.getElem?_eq_getElem aM)) ?_)
   refine aa (Et hG d.1[i].2.1 x (by have:=hs.r _ (List.getElem_mem aM);omega)) ?_
   rw[List.drop_eq_getElem_cons aM,RW]
   by_cases he:x∈d.1[i].2.1
   ·rw[if_pos he]
    exact ae (decide_eq_true he) rfl
   ·rw[if_neg he]
    refine aj (decide_eq_false he) ?_
    have:=ih (i+1) (by omega)
    rw[←aN aM (by omega)]at this
    exact this
 have:=loop d.1.length 0 (by omega)
 rw[List.drop_zero]at this
 exact this
def KQ(x:ab):List aq→Int→Int
 |[],_ => -1
 |g::r,i=>if g.1=x then i else KQ x r (i+1)
theorem I3(x:ab):∀(l:List aq) (i:Nat),(KQ x l i = -1∧gO l x=none)∨∃k g,KQ x l (i:Int)=((i+k:Nat):Int)∧l[k]? = some g∧gO l x=some g.2
 |[],i=>.inl ⟨rfl,rfl⟩
 |g::r,i=>by
  rw[KQ,qe]
  by_cases h:g.1=x
  ·rw[if_pos h,if_pos h]
   exact .inr ⟨0,g,by simp,by simp,rfl⟩
  ·rw[if_neg h,if_neg h]
   have e:(i:Int)+1=((i+1:Nat):Int):=by omega
   rw[e]
   rcases I3 x r (i+1) with⟨h1,h2⟩|⟨k,q,h1,h2,h3⟩
   ·exact .inl ⟨h1,h2⟩
   ·exact .inr ⟨k+1,q,by rw[h1];congr 1;omega,by simpa using h2,h3⟩
theorem RX(hG:HG G)(l:List aq)(x:ab)(hl:l.length≤1073741824):FX G 164162 jK ((l,()),((x,()),()))=some ((KQ x l 0,()),((x,()),())):=by
 refine aA (fn:=Tryz.f162) (hG _ _ rfl) (by kernel_rfl) (by kernel_rfl) ((QR _ _ _).trans ?_)
 have loop:∀(n i:Nat),i+n=l.length→LX G 164162 jK Tryz.f162 kg (aY Tryz.prog 162 0) ((l,(((l.length:Nat):Int),((i:Int),()))),(((x,()),()),()))=some ((KQ x (l.drop i) i,()),((x,()),())):=by
  intro n
  induction n with
  |zero =>
   intro i hi
   refine aB (j:=0) (by kernel_rfl) ((Cb _ _ _).trans ?_)
   refine aj (decide_eq_false (show ¬((i:Int)<((l.length:Nat):Int)) by omega)) ?_
   rw[List.drop_eq_nil_of_le (by omega)];rfl
  |succ n ih =>
   intro i hi
   have aM:i<l.length:=by omega
   have ahj:FX G 163 H7 ((l[i],()),((x.1.1,(x.1.2,(x.2,()))),()))=some (((((l[i].1.1.1==x.1.1)&&(l[i].1.1.2==x.1.2))&&(l[i].1.2==x.2)),()),((x.1.1,(x.1.2,(x.2,()))),())) :=
    aA (fn:=Tryz.f163) (hG _ _ rfl) (by kernel_rfl) (by kernel_rfl) (aaC _ _ _)
   refine aB (j:=0) (by kernel_rfl) ((Cb _ _ _).trans ?_)
   refine ae (bm aM) (aa (aR (List.getElem?_eq_getElem aM)) ?_)
   refine aa ahj ?_
   rw[List.drop_eq_getElem_cons aM,KQ]
   by_cases he:l[i].1=x
   ·rw[if_pos he]
    exact ae ((ki l[i].1 x).trans (decide_eq_true he)) rfl
   ·rw[if_neg he]
    refine aj ((ki l[i].1 x).trans (decide_eq_false he)) ?_
    have:=ih (i+1) (by omega)
    have e:=aN aM hl
    show LX G 164162 jK Tryz.f162 kg (aY Tryz.prog 162 0) ((l,(((l.length:Nat):Int),(IntKind.wrap .i64 ((i:Int)+1),()))),(((x,()),()),()))=some ((KQ x (l.drop (i+1)) ((i+1:Nat):Int),()),((x,()),()))
    rw[e]
    exact this
 have:=loop l.length 0 (by omega)
 rw[List.drop_zero]at this
 exact this
theorem abM(hG:HG G)(l:List aq)(x:ab)(hl:l.length≤1073741824):FX G 152 H5 ((l,x,()),())=some (oH zD (gO l x),()):=by
 refine aA (fn:=Tryz.f152) (hG _ _ rfl) (by kernel_rfl) (by kernel_rfl) ((aay _ _ _).trans ?_)
 refine aa (RX hG l x hl) ?_
 rcases I3 x l 0 with⟨h1,h2⟩|⟨k,g,h1,h2,h3⟩
 ·have h1:KQ x l 0 = -1:=h1
  rw[h2]
  exact ae (decide_eq_true (show KQ x l 0<0 by omega)) rfl
 ·have h1:KQ x l 0=(k:Int):=by
   have:KQ x l ((0:Nat):Int)=KQ x l 0:=rfl
   rw[←this,h1];congr 1;omega
  rw[h3]
  refine aj (decide_eq_false (show ¬KQ x l 0<0 by omega)) ?_
  refine aa (show br l (KQ x l 0)=some g by rw[h1];exact aR h2) ?_
  rfl
theorem abN(hG:HG G)(s:StateT)(x:ab)(hs:Sm s.1)(hg:s.2.length≤50000000):FX G 132 yS ((s,x,()),())=some ((resolve s x,()),()):=by
 refine aA (fn:=Tryz.f132) (hG _ _ rfl) (by kernel_rfl) (by kernel_rfl) ((aak _ _ _).trans ?_)
 have hw:IntKind.wrap .i64 (((s.2.length:Nat):Int)+1)=((s.2.length+1:Nat):Int):=by rw[wrap_small (by omega) (by omega)];rfl
 have loop:∀(n i:Nat) (y:ab),i+n=s.2.length+1→LX G 132 yS Tryz.f132 vN (aY Tryz.prog 132 0) (((IntKind.wrap .i64 (((s.2.length:Nat):Int)+1)),((i:Int),())),(((s,()),((y,()),((zD,()),()))),()))=some ((res s.1 s.2 n y,()),()):=by
  intro n
  induction n with
  |zero =>
   intro i y hi
   refine aB (j:=0) (by kernel_rfl) ((LA _ _ _).trans ?_)
   exact aj (decide_eq_false (show ¬((i:Int)<IntKind.wrap .i64 (((s.2.length:Nat):Int)+1)) by rw[hw];omega)) rfl
  |succ n ih =>
   intro i y hi
   refine aB (j:=0) (by kernel_rfl) ((LA _ _ _).trans ?_)
   refine ae (decide_eq_true (show((i:Int)<IntKind.wrap .i64 (((s.2.length:Nat):Int)+1)) by rw[hw];omega)) ?_
   refine aa (V9 hG s.1 y hs) ?_
   rw[res]
   have h1:(oH zI (bY s.1 y)).2.1=(bY s.1 y).isSome:=fN _ _
   cases ha:(bY s.1 y).isSome
   ·rw[if_neg (by simp)]
    refine aj (h1.trans ha) ?_
    refine aa (abM hG s.2 y (by omega)) ?_
    cases hf:gO s.2 y with
    |none=>exact ae rfl rfl
    |some z =>
     refine aj rfl ?_
     have:=ih (i+1) z (by omega)
     have e:IntKind.wrap .i64 ((i:Int)+1)=((i+1:Nat):Int):=by rw[wrap_small (by omega) (by omega)];rfl
     rw[←e]at this
     exact this
   ·rw[if_pos rfl]
    exact ae (h1.trans ha) rfl
 exact loop (s.2.length+1) 0 x (by omega)
theorem abO(hG:HG G)(s:StateT)(c:pS)(hs:Sm s.1)(hg:s.2.length≤50000000):FX G 112 HV ((s,c,()),())=some (aW s c,()):=by
 refine aA (fn:=Tryz.f112) (hG _ _ rfl) (by kernel_rfl) (by kernel_rfl) ((ZV _ _ _).trans ?_)
 refine aa (abL hG s.1 c.1 hs) ?_
 unfold aW
 cases hf:bg s.1 c.1 with
 |none=>exact ae rfl rfl
 |some v =>
  refine aj rfl ?_
  refine aa (abN hG s c.2 hs hg) ?_
  refine aa (Et hG v.2.1 (resolve s c.2) (by have:=hs.r v (fw hf);omega)) ?_
  show _=some (((c.1,pZ s c v),((0:Int),())),())
  unfold pZ
  by_cases hm:resolve s c.2∈v.2.1
  ·rw[if_pos hm]
   exact aS (decide_eq_true hm) rfl
  ·rw[if_neg hm]
   exact aS (decide_eq_false hm) rfl
def KR(G:(f:FuncId)→(g:aL)→Option (g.A→Option g.B)):Prop:=∀d,Wf d→FX G 114 BD ((d,()),())=some ((decide (bB d=0),()),())
theorem Mb{l:List ag}{e:List ah}{c:pS}{v:ag}(hs:cf l)(hf:aQ l c.1=some v)(x:ab):l.set (bJ l c.1) (v.1,(dI v.2.1 c.2 x,v.2.2))=(aX (l,e) c x).1:=by
 rw[KC hs (dp hs hf)]
 have hi:=iF hf
 have hm:=fw hf
 unfold aX Vs.bM
 rw[←hi,g8 (d:=(l,e)) hs hm]
theorem CL{d:ai}(h:Wf d):pT d.1 d.2=true:=by
 unfold pT
 have h1:=h.nv;have h2:=h.ne
 simp only[Bool.and_eq_true,decide_eq_true_eq,List.all_eq_true]
 exact⟨by omega,by omega,fun v hv=>by have:=h.rN v hv;omega⟩
theorem Uu(hG:HG G)(hp:KR G)(o:bL):Ga G o:=by
 intro s h hm OD
 have Ot:=h.d.nv;have bp:=h.d.ne;have hn:=h.n
 have Uq:=h.d.small
 have bT:=Rx hm
 have start:∀(e:Int) (w:aF),cp 92 oC Tryz.f92 (FX G) (LX G 92 oC Tryz.f92) ((o,()),(aI s,()))=some ((e,()),(w,()))→FX G 92 oC ((o,()),(aI s,()))=some ((e,()),(w,())):=fun e w a =>
  aA (fn:=Tryz.f92) (hG _ _ rfl) (by kernel_rfl) (by kernel_rfl) a
 have f110:=VW hG (aI s) (ba o) h.d.se (by show s.1.2.length≤_;omega)
 unfold nt
 cases hf:(aU s.1.2 (ba o)).isSome with
 |true =>
  have e1:tO (aI s) (ba o)=(12,aI s):=if_pos hf
  rw[e1]at f110
  refine⟨12,aI s,start _ _ ((Xg _ _ _).trans (ae (CL h.d) (aa f110 (ae rfl rfl)))),?_⟩
  rw[if_pos (show(fZ s.1 (ba o)).isSome=true from hf)];rfl
 |false =>
 rw[if_neg (show ¬(fZ s.1 (ba o)).isSome=true by show ¬(aU s.1.2 (ba o)).isSome=true;rw[hf];simp)]
 by_cases Te:40≤s.1.2.length
 ·have e1:tO (aI s) (ba o)=(3,aI s):=(if_neg (show ¬(aU s.1.2 (ba o)).isSome=true by rw[hf];simp)).trans (if_pos Te)
  rw[e1]at f110
  refine⟨3,aI s,start _ _ ((Xg _ _ _).trans (ae (CL h.d) (aa f110 (ae rfl rfl)))),?_⟩
  rw[if_pos Te];rfl
 rw[if_neg Te]
 obtain⟨E,hE⟩:∃E,E=cF (ba o,(e0,0)) s.1.2:=⟨_,rfl⟩
 have e1:tO (aI s) (ba o)=(0,(s.1.1,(E,(s.2,())))):=by rw[hE];exact(if_neg (show ¬(aU s.1.2 (ba o)).isSome=true by rw[hf];simp)).trans (if_neg Te)
 rw[e1]at f110
 obtain⟨x,hx⟩:∃x:ab,x=(ba o,0):=⟨_,rfl⟩
 obtain⟨y,hy⟩:∃y:ab,y=(ba o,1):=⟨_,rfl⟩
 have f111:FX G 111 BB ((ba o,()),())=some ((x,y,()),()):=by
  rw[hx,hy];exact aA (fn:=Tryz.f111) (hG _ _ rfl) (by kernel_rfl) (by kernel_rfl) (VD _ _ _)
 have f112:=fun c:pS=>abO hG s c h.d.sm (by omega)
 have go:∀(e:Int) (w:aF),LX G 92 oC Tryz.f92 mA (aY Tryz.prog 92 0) (((2:Int),((0:Int),())),(((s.1.1,(E,(s.2,()))),((s,()),((x,()),()))),([x,y],([oA o,oB o],()))))=some ((e,()),(w,()))→FX G 92 oC ((o,()),(aI s,()))=some ((e,()),(w,())):=fun e w a =>
  start _ _ ((Xg _ _ _).trans (ae (CL h.d) (aa f110 (aj rfl (aa f111 a)))))
 by_cases hA:(aW s (oA o)).2.1=0
 case neg =>
  rw[if_pos hA]
  have ahk:aW s (oA o)=(zC,(13,())):=by
   unfold aW at hA ⊢
   cases hv:bg s.1 (oA o).1 with
   |none=>rfl
   |some v=>rw[hv]at hA;exact absurd rfl hA
  refine⟨13,(s.1.1,(E,(s.2,()))),go _ _ ?_,rfl⟩
  refine aB (j:=0) (by kernel_rfl) ((xx _ _ _).trans ?_)
  refine ae rfl (ae rfl (aa (a:=oA o) rfl (aa (f112 (oA o)) ?_)))
  rw[ahk]
  exact ae rfl rfl
 rw[if_neg (fun k=>k hA)]
 obtain⟨va,ca⟩:=qf hA
 obtain⟨cA,hcA⟩:∃c:pS,c=(aW s (oA o)).1:=⟨_,rfl⟩
 have eA:aW s (oA o)=(cA,(0,())):=by
  rw[hcA]
  have:(aW s (oA o)).2=(0,()):=by
   have h1:(aW s (oA o)).2=((aW s (oA o)).2.1,()):=rfl
   rw[h1,hA]
  rw[←this]
 have cAv:(aQ s.1.1 cA.1).isSome=true:=by rw[hcA,ca];exact va
 obtain⟨v1,vf⟩:=Option.isSome_iff_exists.1 cAv
 have XP:=fw vf
 obtain⟨d1,KB⟩:∃d1:ai,d1=aX (s.1.1,E) cA x:=⟨_,rfl⟩
 have ahm:s.1.1.set (bJ s.1.1 cA.1) (v1.1,(dI v1.2.1 cA.2 x,v1.2.2))=d1.1:=by rw[KB];exact Mb h.d.sv vf x
 have Wa:cf d1.1:=by rw[KB];exact h.d.sv.re _ _
 have hl1:=(List.getElem?_eq_some_iff.1 (dp h.d.sv vf)).1
 have Wb:∀v∈d1.1,v.2.1.length≤50000000:=fun v hv=>by
  rw[KB]at hv
  obtain⟨w,hw,rfl⟩:=List.mem_map.1 (show v∈s.1.1.map (gr cA.1 (dI (bA (s.1.1,E) cA.1) cA.2 x)) from hv)
  have h1:=h.d.rN w hw
  unfold gr
  split
  ·have h2:=y0 (bA (s.1.1,E) cA.1) cA.2 x
   have h3:(bA (s.1.1,E) cA.1).length≤80:=by
    rw[←iF vf,g8 (d:=(s.1.1,E)) h.d.sv XP]
    exact h.d.rN v1 XP
   show(dI (bA (s.1.1,E) cA.1) cA.2 x).length≤50000000
   omega
  ·omega
 have d1l:d1.1.length=s.1.1.length:=by rw[KB];exact gQ _ _ _
 have Wc:∀(e:Int) (w:aF),LX G 92 oC Tryz.f92 mA (aY Tryz.prog 92 0) (((2:Int),((1:Int),())),(((d1.1,(E,(s.2,()))),((s,()),((x,()),()))),([x,y],([oA o,oB o],()))))=some ((e,()),(w,()))→FX G 92 oC ((o,()),(aI s,()))=some ((e,()),(w,())):=fun e w a=>by
  refine go _ _ ?_
  refine aB (j:=0) (by kernel_rfl) ((xx _ _ _).trans ?_)
  refine ae rfl (ae rfl (aa (a:=oA o) rfl (aa (f112 (oA o)) ?_)))
  rw[eA]
  refine aj rfl (aj rfl ?_)
  refine aa (qw hG (s.1.1,(E,(s.2,()))) cA.1 h.d.sv Uq.n) ?_
  refine ae (dq (eX _) (bm hl1)) (aa (dp h.d.sv vf) ?_)
  refine ae rfl (aa (a:=x) rfl ?_)
  refine aa (Ru hG v1.2.1 cA.2 x (Uq.r v1 XP)) ?_
  refine aa (dp h.d.sv vf) ?_
  have key:∀a1:List ag,a1=d1.1→LX G 92 oC Tryz.f92 mA (aY Tryz.prog 92 0) (((2:Int),((1:Int),())),(((a1,(E,(s.2,()))),((s,()),((x,()),()))),([x,y],([oA o,oB o],()))))=some ((e,()),(w,())):=fun a1 EK=>by subst EK;exact a
  exact key _ ahm
 by_cases hB:(aW s (oB o)).2.1=0
 case neg =>
  rw[if_pos hB]
  have ahn:aW s (oB o)=(zC,(13,())):=by
   unfold aW at hB ⊢
   cases hv:bg s.1 (oB o).1 with
   |none=>rfl
   |some v=>rw[hv]at hB;exact absurd rfl hB
  refine⟨13,(d1.1,(E,(s.2,()))),Wc _ _ ?_,rfl⟩
  refine aB (j:=0) (by kernel_rfl) ((xx _ _ _).trans ?_)
  refine ae rfl (ae rfl (aa (a:=oB o) rfl (aa (f112 (oB o)) ?_)))
  rw[ahn]
  exact ae rfl rfl
 rw[if_neg (fun k=>k hB)]
 obtain⟨vb,cb⟩:=qf hB
 obtain⟨cB,hcB⟩:∃c:pS,c=if(bg s.1 (oB o).1).isSome=true∧(oB o).2=(ba o,0) then oB o else(aW s (oB o)).1:=⟨_,rfl⟩
 have eB:aW s (oB o)=((aW s (oB o)).1,(0,())):=by
  have:(aW s (oB o)).2=(0,()):=by
   have h1:(aW s (oB o)).2=((aW s (oB o)).2.1,()):=rfl
   rw[h1,hB]
  rw[←this]
 have cB1:cB.1=(oB o).1:=by rw[hcB];split;rfl;exact cb
 have cBv:(aQ d1.1 cB.1).isSome=true:=by
  rw[KB]
  exact IL _ (by rw[cB1];exact vb)
 obtain⟨v2,yr⟩:=Option.isSome_iff_exists.1 cBv
 have abQ:=fw yr
 have uc:=(List.getElem?_eq_some_iff.1 (dp Wa yr)).1
 obtain⟨d2,TA⟩:∃d2:ai,d2=aX d1 cB y:=⟨_,rfl⟩
 have Uv:d1.1.set (bJ d1.1 cB.1) (v2.1,(dI v2.2.1 cB.2 y,v2.2.2))=d2.1:=by rw[TA];exact Mb (e:=d1.2) Wa yr y
 have We:jY s o=d2:=by
  rw[TA,KB,hcA,hcB,hx,hy,hE];rfl
 have hE2:d2.2=E:=by rw[TA,KB];rfl
 have hwf:Wf d2:=by
  rw[←We]
  unfold jY
  have hn0:aU s.1.2 (ba o)=none:=by simpa using hf
  refine h.d.link bT hn0 Te (by rw[ca];exact va) ?_
  rw[←hcB,cB1];exact vb
 have last:∀(e:Int) (w:aF),LX G 92 oC Tryz.f92 mA (aY Tryz.prog 92 0) (((2:Int),((2:Int),())),(((d2.1,(E,(s.2,()))),((s,()),((x,()),()))),([x,y],([oA o,oB o],()))))=some ((e,()),(w,()))→FX G 92 oC ((o,()),(aI s,()))=some ((e,()),(w,())):=fun e w a=>by
  refine Wc _ _ ?_
  refine aB (j:=0) (by kernel_rfl) ((xx _ _ _).trans ?_)
  refine ae rfl (ae rfl (aa (a:=oB o) rfl (aa (f112 (oB o)) ?_)))
  rw[eB]
  have key:∀a2:List ag,a2=d2.1→LX G 92 oC Tryz.f92 mA (aY Tryz.prog 92 0) (((2:Int),((2:Int),())),(((a2,(E,(s.2,()))),((s,()),((x,()),()))),([x,y],([oA o,oB o],()))))=some ((e,()),(w,())):=fun a2 DI=>by subst DI;exact a
  refine aj rfl (ae rfl ?_)
  have qy:=ki (oB o).2 x
  by_cases YC:(oB o).2=x
  ·have ecB:cB=oB o:=by rw[hcB];exact if_pos ⟨vb,YC.trans hx⟩
   refine ae (qy.trans (decide_eq_true YC)) ?_
   rw[ecB]at yr uc Uv
   refine aa (qw hG (d1.1,(E,(s.2,()))) (oB o).1 Wa (by show d1.1.length≤_;omega)) ?_
   refine ae (dq (eX _) (bm uc)) (aa (dp Wa yr) ?_)
   refine ae rfl (aa (a:=y) rfl ?_)
   refine aa (Ru hG v2.2.1 (oB o).2 y (Wb v2 abQ)) ?_
   refine aa (dp Wa yr) ?_
   exact key _ Uv
  ·have ecB:cB=(aW s (oB o)).1:=by rw[hcB];exact if_neg (fun k=>YC (k.2.trans hx.symm))
   refine aj (qy.trans (decide_eq_false YC)) ?_
   rw[ecB]at yr uc Uv
   refine aa (qw hG (d1.1,(E,(s.2,()))) (aW s (oB o)).1.1 Wa (by show d1.1.length≤_;omega)) ?_
   refine ae (dq (eX _) (bm uc)) (aa (dp Wa yr) ?_)
   refine ae rfl (aa (a:=y) rfl ?_)
   refine aa (Ru hG v2.2.1 (aW s (oB o)).1.2 y (Wb v2 abQ)) ?_
   refine aa (dp Wa yr) ?_
   exact key _ Uv
 have f114:=hp d2 hwf
 rw[We]
 have e2:(d2.1,E)=d2:=by rw[←hE2]
 by_cases hg:bB d2=0
 ·rw[if_neg (fun k=>k hg)]
  refine⟨0,(d2.1,(E,(s.2,()))),last _ _ ?_,?_⟩
  ·refine aB (j:=0) (by kernel_rfl) ((xx _ _ _).trans ?_)
   refine aj rfl ?_
   have key:∀q:ai,q=d2→((FX G 114 BD ((q,()),())).bind fun(Dz:((Bool×Unit)×Unit))=>cond (not Dz.1.1) (some (((15:Int),()),((d2.1,(E,(s.2,()))),()))) (some (((0:Int),()),((d2.1,(E,(s.2,()))),()))))=some (((0:Int),()),((d2.1,(E,(s.2,()))),())):=fun q hq=>by
    subst hq
    exact aa f114 (aS (decide_eq_true hg) rfl)
   exact key _ e2
  ·show(LW (d2.1,(E,(s.2,()))),((0:Int),()))=((d2,s.2),(0,()))
   show(((d2.1,E),s.2),((0:Int),()))=((d2,s.2),(0,()))
   rw[e2]
 ·rw[if_pos hg]
  refine⟨15,(d2.1,(E,(s.2,()))),last _ _ ?_,rfl⟩
  refine aB (j:=0) (by kernel_rfl) ((xx _ _ _).trans ?_)
  refine aj rfl ?_
  have key:∀q:ai,q=d2→((FX G 114 BD ((q,()),())).bind fun(Dz:((Bool×Unit)×Unit))=>cond (not Dz.1.1) (some (((15:Int),()),((d2.1,(E,(s.2,()))),()))) (some (((0:Int),()),((d2.1,(E,(s.2,()))),()))))=some (((15:Int),()),((d2.1,(E,(s.2,()))),())):=fun q hq=>by
   subst hq
   exact aa f114 (aS (decide_eq_false hg) rfl)
  exact key _ e2
end Go.Vs
namespace Go.Vs
open Go.Proofs
variable {G:(f:FuncId)→(g:aL)→Option (g.A→Option g.B)}
theorem abR(hG:HG G)(row:List ab)(d:ab)(hl:row.length≤100000000):FX G 182 Ia ((row,d,()),())=some (Iu (dd row d 1),()):=by
 refine aA (fn:=Tryz.f182) (hG _ _ rfl) (by kernel_rfl) (by kernel_rfl) ((aaK _ _ _).trans ?_)
 have key:FX G 157 BI ((row,(d,((1:Int),()))),())=some (Iu (dd row d 1),()):=by
  refine aA (fn:=Tryz.f157) (hG _ _ rfl) (by kernel_rfl) (by kernel_rfl) ((VF _ _ _).trans ?_)
  refine aa (Cp (hG _ _ rfl) row d (by omega)) ?_
  unfold dd
  by_cases hd:d∈row
  ·rw[if_pos hd]
   obtain⟨k,h1,h2,h3⟩:=eP hd
   have aM:=(List.getElem?_eq_some_iff.1 h2).1
   refine aj (decide_eq_false (show ¬idx d row 0<0 by omega)) ?_
   refine aj (FP hd) ?_
   have Kj:IntKind.wrap .i64 (idx d row 0+1)=((k+1:Nat):Int):=by rw[h1,wrap_small (by omega) (by omega)];rfl
   have xG:(k+1)%row.length<row.length:=Nat.mod_lt _ (by omega)
   have hx:=List.getElem?_eq_getElem xG
   refine aa (show br row (Int.tmod (IntKind.wrap .i64 (idx d row 0+1)) ((row.length:Nat):Int))=some row[(k+1)%row.length] by rw[Kj,rC];exact aR hx) ?_
   rw[h1,Int.toNat_natCast,hx];rfl
  ·rw[if_neg hd]
   exact ae (decide_eq_true (fb.2 hd)) rfl
 refine aa key ?_
 rfl
def I4(x:ab):List ag→Option ab
 |[]=>none
 |v::r=>if x∈v.2.1 then dd v.2.1 x 1 else I4 x r
theorem Mc{l:List ag}(h:Rw l){v:ag}{x:ab}(hv:v∈l)(hx:x∈v.2.1):∀r,(∀u∈r,u∈l)→v∈r→I4 x r=dd v.2.1 x 1
 |[],_,k=>by cases k
 |u::r,hs,k=>by
  rw[I4]
  by_cases hu:x∈u.2.1
  ·rw[if_pos hu,h.one hv (hs u List.mem_cons_self) hx hu]
  ·rw[if_neg hu]
   rcases List.mem_cons.1 k with e|k
   ·rw[e]at hx;exact absurd hx hu
   ·exact Mc h hv hx r (fun w hw=>hs w (List.mem_cons_of_mem _ hw)) k
theorem EL{x:ab}:∀{l:List ag},x∉ak l→I4 x l=none
 |[],_=>rfl
 |v::r,h=>by
  rw[km,List.mem_append]at h
  rw[I4,if_neg (fun k=>h (.inl k))]
  exact EL fun k=>h (.inr k)
theorem KS{d:ai}(h:Rw d.1)(x:ab):I4 x d.1=jW d x:=by
 by_cases hx:x∈ak d.1
 ·obtain⟨v,hv,js⟩:=aG.1 hx
  rw[CD h hv js]
  exact Mc h hv js d.1 (fun _ k=>k) hv
 ·rw[EL hx]
  unfold jW bY
  rw[wo hx]
theorem abS(hG:HG G)(d:ai)(x:ab)(hs:Sm d)(h:Rw d.1):FX G 179 yV ((d,x,()),())=some (Iu (jW d x),()):=by
 have hv:=hs.v
 rw[←KS h x]
 refine aA (fn:=Tryz.f179) (hG _ _ rfl) (by kernel_rfl) (by kernel_rfl) ((aaH _ _ _).trans ?_)
 have loop:∀(n i:Nat),i+n=d.1.length→LX G 179 yV Tryz.f179 vY (aY Tryz.prog 179 0) ((d.1,(((d.1.length:Nat):Int),((i:Int),()))),(((x,()),((zD,()),())),()))=some (Iu (I4 x (d.1.drop i)),()):=by
  intro n
  induction n with
  |zero =>
   intro i hi
   refine aB (j:=0) (by kernel_rfl) ((LL _ _ _).trans ?_)
   refine aj (decide_eq_false (show ¬((i:Int)<((d.1.length:Nat):Int)) by omega)) ?_
   rw[List.drop_eq_nil_of_le (by omega)];rfl
  |succ n ih =>
   intro i hi
   have aM:i<d.1.length:=by omega
   refine aB (j:=0) (by kernel_rfl) ((LL _ _ _).trans ?_)
   refine ae (bm aM) (aa (aR (List.getElem?_eq_getElem aM)) ?_)
   refine aa (abR hG d.1[i].2.1 x (by have:=hs.r _ (List.getElem_mem aM);omega)) ?_
   rw[List.drop_eq_getElem_cons aM,I4]
   by_cases he:x∈d.1[i].2.1
   ·rw[if_pos he]
    unfold dd
    rw[if_pos he]
    obtain⟨k,h1,h2,h3⟩:=eP he
    have hl:=(List.getElem?_eq_some_iff.1 h2).1
    have hm:((idx x d.1[i].2.1 0).toNat+1)%d.1[i].2.1.length<d.1[i].2.1.length:=Nat.mod_lt _ (by omega)
    rw[List.getElem?_eq_getElem hm]
    exact ae rfl rfl
   ·rw[if_neg he]
    unfold dd
    rw[if_neg he]
    refine aj rfl ?_
    have:=ih (i+1) (by omega)
    rw[←aN aM (by omega)]at this
    exact this
 have:=loop d.1.length 0 (by omega)
 rw[List.drop_zero]at this
 exact this
theorem at_mem{d:ai}{x:ab}(h:(bY d x).isSome=true):x∈ak d.1:=by
 apply Classical.byContradiction
 intro k
 unfold bY at h
 rw[wo k]at h
 cases h
theorem abT(hG:HG G)(d:ai)(x:ab)(h:Wf d):FX G 176 El ((d,x,()),())=some (Iu (Gy d x),()):=by
 have hs:=h.sm
 refine aA (fn:=Tryz.f176) (hG _ _ rfl) (by kernel_rfl) (by kernel_rfl) ((aaF _ _ _).trans ?_)
 refine aa (V9 hG d x hs) ?_
 have h1:(oH zI (bY d x)).2.1=(bY d x).isSome:=fN _ _
 unfold Gy
 cases ha:(bY d x).isSome
 ·rw[if_neg (by simp)]
  exact aS (h1.trans ha) rfl
 ·rw[if_pos rfl]
  refine aS (h1.trans ha) ?_
  refine aa (IP (hG _ _ rfl) x (h.side (at_mem ha))) ?_
  exact aa (abS hG d (af x) hs h.rw) rfl
theorem abU(hG:HG G)(d:ai)(hs:Sm d):FX G 171 vK ((d,()),())=some ((fe d.2,()),()):=by
 have he:=hs.e
 refine aA (fn:=Tryz.f171) (hG _ _ rfl) (by kernel_rfl) (by kernel_rfl) ((aaE _ _ _).trans ?_)
 have loop:∀(n i:Nat) (out:List ab),i+n=d.2.length→out.length=2*i→LX G 171 vK Tryz.f171 vU (aY Tryz.prog 171 0) ((d.2,(((d.2.length:Nat):Int),((i:Int),()))),((),(out,())))=some ((out++fe (d.2.drop i),()),()):=by
  intro n
  induction n with
  |zero =>
   intro i out hi ho
   refine aB (j:=0) (by kernel_rfl) ((LG _ _ _).trans ?_)
   refine aj (decide_eq_false (show ¬((i:Int)<((d.2.length:Nat):Int)) by omega)) ?_
   rw[List.drop_eq_nil_of_le (by omega)]
   show some ((out,()),())=some ((out++[],()),())
   rw[List.append_nil]
  |succ n ih =>
   intro i out hi ho
   have aM:i<d.2.length:=by omega
   refine aB (j:=0) (by kernel_rfl) ((LG _ _ _).trans ?_)
   refine ae (bm aM) (aa (aR (List.getElem?_eq_getElem aM)) ?_)
   refine aa (IP (hG _ _ rfl) (d.2[i].1,0) (.inl rfl)) ?_
   refine ae (fits (by show out.length+2≤_;omega)) ?_
   have:=ih (i+1) (out++[(d.2[i].1,0),(d.2[i].1,1)]) (by omega) (by simp[ho];omega)
   rw[List.drop_eq_getElem_cons aM]
   rw[←aN aM (by omega),List.append_assoc]at this
   exact this
 exact loop d.2.length 0 [] (by omega) rfl
theorem RY(hG:HG G)(l:List ag)(hl:l.length≤50000000):FX G 166164 kT ((l,()),())=some ((((al l:Nat):Int),()),()):=by
 refine aA (fn:=Tryz.f164) (hG _ _ rfl) (by kernel_rfl) (by kernel_rfl) ((QS _ _ _).trans ?_)
 have loop:∀(n i m:Nat),i+n=l.length→m≤i→LX G 166164 kT Tryz.f164 kh (aY Tryz.prog 164 0) (((m:Int),(l,(((l.length:Nat):Int),((i:Int),())))),((),()))=some ((((m+al (l.drop i):Nat):Int),()),()):=by
  intro n
  induction n with
  |zero =>
   intro i m hi hm
   refine aB (j:=0) (by kernel_rfl) ((Cc _ _ _).trans ?_)
   refine aj (decide_eq_false (show ¬((i:Int)<((l.length:Nat):Int)) by omega)) ?_
   rw[List.drop_eq_nil_of_le (by omega)];rfl
  |succ n ih =>
   intro i m hi hm
   have aM:i<l.length:=by omega
   have ahp:FX G 165 H8 ((l[i],()),())=some ((l[i].2.1.isEmpty,()),()):=by
    refine aA (fn:=Tryz.f165) (hG _ _ rfl) (by kernel_rfl) (by kernel_rfl) ((aaD _ _ _).trans ?_)
    have:(((l[i].2.1.length:Nat):Int)==0)=l[i].2.1.isEmpty:=by cases l[i].2.1<;>simp;omega
    exact congrArg (fun b:Bool=>some ((b,()),())) this
   refine aB (j:=0) (by kernel_rfl) ((Cc _ _ _).trans ?_)
   refine ae (bm aM) (aa (aR (List.getElem?_eq_getElem aM)) ?_)
   refine aa ahp ?_
   rw[List.drop_eq_getElem_cons aM]
   unfold al
   rw[List.countP_cons]
   cases hb:l[i].2.1.isEmpty
   ·refine aj rfl ?_
    have:=ih (i+1) m (by omega) (by omega)
    rw[←aN aM (by omega)]at this
    exact this
   ·refine ae rfl ?_
    have:=ih (i+1) (m+1) (by omega) (by omega)
    rw[←aN aM (by omega),←aN (i:=m) (n:=l.length) (by omega) (by omega)]at this
    refine this.trans ?_
    refine congrArg (fun q:Nat=>some ((((q:Nat):Int),()),())) ?_
    unfold al
    simp;omega
 have:=loop l.length 0 0 (by omega) (by omega)
 rw[List.drop_zero,Nat.zero_add]at this
 exact this
end Go.Vs
namespace Go.Vs
open Go.Proofs
variable {G:(f:FuncId)→(g:aL)→Option (g.A→Option g.B)}
def Fo(g:List Nat):Prop:=∀(i x:Nat),g[i]? = some x→x≤i
def root(g:List Nat)(i:Nat):Nat :=
 match g[i]? with
 |some x=>if h:x<i then root g x else i
 |none=>i
termination_by i
theorem dJ{g:List Nat}{i x:Nat}(h:g[i]? = some x):root g i=if x<i then root g x else i:=by
 rw[root,h];simp
theorem lU{g:List Nat}{i:Nat}(h:g[i]? = none):root g i=i:=by rw[root,h]
theorem Md(g:List Nat):∀i,root g i≤i:=by
 intro i
 induction i using Nat.strongRecOn with
 |_ i ih =>
  cases h:g[i]? with
  |none=>rw[lU h];exact Nat.le_refl _
  |some x =>
   rw[dJ h]
   split
   ·rename_i hx;have:=ih x hx;omega
   ·exact Nat.le_refl _
theorem I5{g:List Nat}(hf:Fo g):∀i,i<g.length→g[root g i]? = some (root g i):=by
 intro i
 induction i using Nat.strongRecOn with
 |_ i ih =>
  intro hi
  have h:=List.getElem?_eq_getElem hi
  rw[dJ h]
  split
  ·rename_i hx;exact ih _ hx (by omega)
  ·have:=hf i _ h
   rw[h];congr 1;omega
theorem lV{g:List Nat}{i:Nat}(h:g[i]? = some i):root g i=i:=by rw[dJ h,if_neg (by omega)]
theorem Fo.set{g:List Nat}(hf:Fo g){i y:Nat}(h:y≤i):Fo (g.set i y):=fun j x hj=>by
 rw[List.getElem?_set]at hj
 split at hj
 ·rename_i e;subst e
  split at hj
  ·cases hj;exact h
  ·cases hj
 ·exact hf j x hj
theorem KT{g:List Nat}(hf:Fo g){i x y:Nat}(hi:g[i]? = some x)(hx:g[x]? = some y)(aM:x<i):∀j,root (g.set i y) j=root g j:=by
 have hyx:=hf x y hx
 have lE:=(List.getElem?_eq_some_iff.1 hi).1
 intro j
 induction j using Nat.strongRecOn with
 |_ j ih =>
  by_cases e:j=i
  ·subst e
   have h1:(g.set j y)[j]? = some y:=by rw[List.getElem?_set];simp[lE]
   rw[dJ h1,if_pos (by omega),ih y (by omega),dJ hi,if_pos aM,dJ hx]
   split
   ·rfl
   ·have:y=x:=by omega
    subst this;exact lV hx
  ·have h1:(g.set i y)[j]? = g[j]? := by rw[List.getElem?_set,if_neg (fun k=>e k.symm)]
   cases h:g[j]? with
   |none=>rw[lU h,lU (h1.trans h)]
   |some z =>
    rw[dJ h,dJ (h1.trans h)]
    split
    ·rename_i hz;exact ih z hz
    ·rfl
theorem N7{g:List Nat}{a b:Nat}(ha:g[a]? = some a)(hb:g[b]? = some b):∀j,root (g.set (max a b) (min a b)) j=if root g j=max a b then min a b else root g j:=by
 have hm:g[max a b]? = some (max a b):=by rcases Nat.le_total a b with h|h<;>simp[Nat.max_eq_right,Nat.max_eq_left,h,ha,hb]
 have hn:g[min a b]? = some (min a b):=by rcases Nat.le_total a b with h|h<;>simp[Nat.min_eq_right,Nat.min_eq_left,h,ha,hb]
 have hml:=(List.getElem?_eq_some_iff.1 hm).1
 have hle:min a b≤max a b:=by omega
 generalize max a b=M at *
 generalize min a b=m at *
 have aM:∀j,(g.set M m)[j]? = if j=M then some m else g[j]? := fun j=>by
  rw[List.getElem?_set]
  by_cases e:M=j
  ·subst e;simp[hml]
  ·rw[if_neg e,if_neg (fun k=>e k.symm)]
 intro j
 induction j using Nat.strongRecOn with
 |_ j ih =>
  by_cases ej:j=M
  ·subst ej
   have h1:(g.set j m)[j]? = some m:=by rw[aM,if_pos rfl]
   rw[dJ h1,lV hm,if_pos rfl]
   by_cases e:m<j
   ·rw[if_pos e,ih m e,lV hn,if_neg (by omega)]
   ·rw[if_neg e];omega
  ·have h1:(g.set M m)[j]? = g[j]? := by rw[aM,if_neg ej]
   cases h:g[j]? with
   |none=>rw[lU h,lU (h1.trans h),if_neg ej]
   |some z =>
    rw[dJ h,dJ (h1.trans h)]
    by_cases hz:z<j
    ·rw[if_pos hz,if_pos hz];exact ih z hz
    ·rw[if_neg hz,if_neg hz,if_neg ej]
def fI(g:List Nat):List Int:=g.map fun n=>((n:Nat):Int)
theorem CM(g:List Nat):(fI g).length=g.length:=by simp[fI]
theorem uK{g:List Nat}{i x:Nat}(h:g[i]? = some x):(fI g)[Int.toNat (i:Int)]? = some (x:Int):=by simp[fI,h]
theorem RZ(g:List Nat)(i x:Nat):(fI g).set (Int.toNat (i:Int)) (x:Int)=fI (g.set i x):=by simp[fI,List.map_set]
theorem CN{g:List Nat}{i:Nat}(h:i<g.length):(decide ((0:Int)≤(i:Int))&&decide ((i:Int)<(((fI g).length:Nat):Int)))=true:=by
 rw[CM];exact dq (eX i) (bm h)
structure EM(g g':List Nat):Prop where
 f:Fo g'
 n:g'.length=g.length
 r:∀j,root g' j=root g j
theorem EM.trans{a b c:List Nat}(h:EM a b)(k:EM b c):EM a c:=⟨k.f,k.n.trans h.n,fun j=>(k.r j).trans (h.r j)⟩
theorem R1(hG:HG G)(g:List Nat)(i:Nat)(hf:Fo g)(hi:i<g.length):∃g',EM g g'∧FX G 181 rq (((i:Int),()),(fI g,()))=some ((((root g i:Nat):Int),()),(fI g',())):=by
 have loop:∀(i:Nat) (g:List Nat),Fo g→i<g.length→∃g',EM g g'∧LX G 181 rq Tryz.f181 sJ (aY Tryz.prog 181 0) (((i:Int),()),((),(fI g,())))=some ((((root g i:Nat):Int),()),(fI g',())):=by
  intro i
  induction i using Nat.strongRecOn with
  |_ i ih =>
   intro g hf hi
   have h:=List.getElem?_eq_getElem hi
   generalize g[i]=x at h
   have hxi:=hf i x h
   by_cases hx:x<i
   ·have h2:=List.getElem?_eq_getElem (show x<g.length by omega)
    generalize g[x]=y at h2
    have hyx:=hf x y h2
    have hs:=KT hf h h2 hx
    have hf2:Fo (g.set i y):=hf.set (by omega)
    obtain⟨g',h3,h4⟩:=ih y (by omega) (g.set i y) hf2 (by rw[List.length_set];omega)
    refine⟨g',⟨h3.f,by rw[h3.n,List.length_set],fun j=>(h3.r j).trans (hs j)⟩,?_⟩
    refine aB (j:=0) (by kernel_rfl) ((LM _ _ _).trans ?_)
    refine ae (CN hi) (aa (uK h) ?_)
    refine ae (show(((x:Nat):Int) != (i:Int))=true by rw[bne_iff_ne];omega) ?_
    refine ae (CN hi) (aa (uK h) ?_)
    refine ae (CN (show x<g.length by omega)) (aa (uK h2) ?_)
    refine ae (CN hi) (aa (uK h) ?_)
    have ahq:=RZ g i y
    have key:∀f:List Int,f=fI (g.set i y)→cond ((decide ((0:Int)≤(i:Int)))&&(decide ((i:Int)<(((List.length f):Nat):Int)))) (((f)[(Int.toNat (i:Int))]?).bind fun(y5:Int)=>LX G 181 rq Tryz.f181 sJ (aY Tryz.prog 181 0) ((y5,()),((),(f,())))) none=some ((((root g i:Nat):Int),()),(fI g',())):=fun f hf=>by
     subst hf
     refine ae (CN (by rw[List.length_set];exact hi)) (aa (uK (x:=y) (by rw[List.getElem?_set];simp[hi])) ?_)
     rw[h4,hs y,dJ h,if_pos hx,dJ h2]
     by_cases hy:y<x
     ·rw[if_pos hy]
     ·have:y=x:=by omega
      subst this;rw[if_neg (by omega),lV h2]
    exact key _ ahq
   ·have:x=i:=by omega
    subst this
    refine⟨g,⟨hf,rfl,fun _=>rfl⟩,?_⟩
    refine aB (j:=0) (by kernel_rfl) ((LM _ _ _).trans ?_)
    refine ae (CN hi) (aa (uK h) ?_)
    rw[lV h]
    exact aj (by simp) rfl
 obtain⟨g',h1,h2⟩:=loop i g hf hi
 exact⟨g',h1,aA (fn:=Tryz.f181) (hG _ _ rfl) (by kernel_rfl) (by kernel_rfl) ((aaJ _ _ _).trans h2)⟩
def CO(a b r:Nat):Nat:=if r=max a b then min a b else r
theorem abV(hG:HG G)(g:List Nat)(i k:Nat)(hf:Fo g)(hi:i<g.length)(hk:k<g.length):∃g',Fo g'∧g'.length=g.length∧(∀j,root g' j=CO (root g i) (root g k) (root g j))∧FX G 180 H9 (((i:Int),((k:Int),())),(fI g,()))=some ((),(fI g',())):=by
 obtain⟨g1,h1,e1⟩:=R1 hG g i hf hi
 obtain⟨g2,h2,e2⟩:=R1 hG g1 k h1.f (by rw[h1.n];exact hk)
 rw[h1.r k]at e2
 have hs:=h1.trans h2
 have ra:g2[root g i]? = some (root g i):=by
  have:=I5 hs.f i (by rw[hs.n];exact hi)
  rw[hs.r i]at this;exact this
 have rb:g2[root g k]? = some (root g k):=by
  have:=I5 hs.f k (by rw[hs.n];exact hk)
  rw[hs.r k]at this;exact this
 have hal:=(List.getElem?_eq_some_iff.1 ra).1
 have hbl:=(List.getElem?_eq_some_iff.1 rb).1
 have hm:max (root g i) (root g k)<g2.length:=by omega
 refine⟨g2.set (max (root g i) (root g k)) (min (root g i) (root g k)),hs.f.set (by omega),by rw[List.length_set,hs.n],fun j=>by rw[N7 ra rb j,hs.r j];rfl,?_⟩
 refine aA (fn:=Tryz.f180) (hG _ _ rfl) (by kernel_rfl) (by kernel_rfl) ((aaI _ _ _).trans ?_)
 refine aa e1 (aa e2 ?_)
 have em:(max ((root g i:Nat):Int) ((root g k:Nat):Int):Int)=((max (root g i) (root g k):Nat):Int):=by omega
 have en:(min ((root g i:Nat):Int) ((root g k:Nat):Int):Int)=((min (root g i) (root g k):Nat):Int):=by omega
 have key:∀m n:Int,m=((max (root g i) (root g k):Nat):Int)→n=((min (root g i) (root g k):Nat):Int)→cond ((decide ((0:Int)≤m))&&(decide (m<(((List.length (fI g2)):Nat):Int)))) (((fI g2)[(Int.toNat m)]?).bind fun(y3:Int)=>(some ((),((List.set (fI g2) (Int.toNat m) n),())):Option (Unit×((List Int)×Unit)))) none=some ((),(fI (g2.set (max (root g i) (root g k)) (min (root g i) (root g k))),())):=fun m n Tx JF=>by
  subst Tx JF
  refine ae (CN hm) (aa (uK (List.getElem?_eq_getElem hm)) ?_)
  rw[RZ]
 exact key _ _ em en
end Go.Vs
namespace Go.Vs
open Go.Proofs
variable {G:(f:FuncId)→(g:aL)→Option (g.A→Option g.B)}
theorem KU{α:Type}(x:ab)(es:List (ab×α)):tU bw x es=es.findIdx? fun e=>decide (e.1=x):=by
 show List.findIdx? (fun e:ab×α=>((x.1.1==e.1.1.1)&&(x.1.2==e.1.1.2))&&(x.2==e.1.2)) es=_
 congr 1
 funext e
 rw[ki x e.1]
 by_cases h:x=e.1
 ·rw[decide_eq_true h,decide_eq_true h.symm]
 ·rw[decide_eq_false h,decide_eq_false (fun k=>h k.symm)]
def fR{β α:Type}[DecidableEq β](x:β):List (β×α)→Option α
 |[]=>none
 |e::r=>if e.1=x then some e.2 else fR x r
theorem KV{β α:Type}[DecidableEq β](x:β):∀es:List (β×α),((es.findIdx? fun e=>decide (e.1=x)).bind fun i=>(es[i]?).map (·.2))=fR x es
 |[]=>rfl
 |e::r=>by
  have ih:=KV x r
  rw[List.findIdx?_cons,fR]
  by_cases h:e.1=x
  ·rw[if_pos (decide_eq_true h),if_pos h];rfl
  ·rw[if_neg (by simpa using h),if_neg h,←ih]
   cases r.findIdx? fun e=>decide (e.1=x)<;>simp
theorem R4{α:Type}(x:ab)(es:List (ab×α)):jy bw x es=fR x es:=by
 have:=KV x es
 rw[←KU]at this
 exact this
theorem R5{α:Type}{x:ab}(v:α){es:List (ab×α)}(h:x∉es.map (·.1)):mQ bw x v es=es++[(x,v)]:=by
 have e:tU bw x es=none:=by
  rw[KU,List.findIdx?_eq_none_iff]
  intro q hq
  exact decide_eq_false fun k=>h (List.mem_map.2 ⟨q,hq,k⟩)
 unfold mQ
 split
 ·rename_i i k;rw[e]at k;cases k
 ·rfl
theorem I6{β α:Type}[DecidableEq β]{x:β}{v:α}:∀{es:List (β×α)},(es.map (·.1)).Nodup→(x,v)∈es→fR x es=some v
 |[],_,h=>by cases h
 |e::r,hn,h=>by
  simp only[List.map_cons,List.nodup_cons]at hn
  rw[fR]
  rcases List.mem_cons.1 h with e1|h
  ·subst e1;rw[if_pos rfl]
  ·rw[if_neg (fun k=>hn.1 (by rw[k];exact List.mem_map.2 ⟨_,h,rfl⟩))]
   exact I6 hn.2 h
def iG:List ag→Nat→List (ab×Int)
 |[],_=>[]
 |v::r,i=>v.2.1.map (fun x=>(x,(i:Int)))++iG r (i+1)
theorem xZ:∀(l:List ag) (i:Nat),(iG l i).map (·.1)=ak l
 |[],_=>rfl
 |v::r,i=>by
  have e:(v.2.1.map fun x=>(x,(i:Int))).map (·.1)=v.2.1:=by rw[List.map_map];exact List.map_id _
  rw[iG,km,List.map_append,xZ r,e]
theorem I7:∀(a b:List ag) (i:Nat),iG (a++b) i=iG a i++iG b (i+a.length)
 |[],b,i=>rfl
 |v::r,b,i=>by
  rw[List.cons_append,iG,iG,I7 r b,List.append_assoc]
  congr 3
  simp;omega
theorem I8{x:ab}{a:Int}:∀{l:List ag} {i:Nat},(x,a)∈iG l i→∃k v,l[k]? = some v∧a=((i+k:Nat):Int)∧x∈v.2.1
 |[],i,h=>by cases h
 |v::r,i,h=>by
  rw[iG]at h
  rcases List.mem_append.1 h with h|h
  ·obtain⟨y,hy,e⟩:=List.mem_map.1 h
   cases e
   exact⟨0,v,rfl,rfl,hy⟩
  ·obtain⟨k,u,h1,h2,h3⟩:=I8 h
   exact⟨k+1,u,by simpa using h1,by rw[h2];congr 1;omega,h3⟩
theorem Me{x:ab}:∀{l:List ag} {i k:Nat} {v:ag},l[k]? = some v→x∈v.2.1→(x,((i+k:Nat):Int))∈iG l i
 |v::r,i,0,u,h,hx=>by
  simp at h;subst h
  rw[iG];exact List.mem_append_left _ (List.mem_map.2 ⟨x,hx,rfl⟩)
 |v::r,i,k+1,u,h,hx=>by
  rw[iG]
  refine List.mem_append_right _ ?_
  have:=Me (i:=i+1) (k:=k) (by simpa using h) hx
  rwa [show i+1+k=i+(k+1) by omega]at this
theorem R6(i:Nat):fI (List.range i)++[(i:Int)]=fI (List.range (i+1)):=by rw[List.range_succ];simp[fI]
section
variable {d:ai} {y:iE.B}
theorem Uw(h:Wf d){i:Nat}(hi:i<d.1.length){f:List Int}{nn:Int}
  (next:LX G 177 iE Tryz.f177 sI (aY Tryz.prog 177 0) ((d.1,(nn,((IntKind.wrap .i64 ((i:Int)+1)),()))),((),(f,(iG (d.1.take (i+1)) 0,()))))=some y):∀(n j:Nat) (es:List (ab×Int)),j+n=d.1[i].2.1.length→es=iG (d.1.take i) 0++(d.1[i].2.1.take j).map (fun x=>(x,(i:Int))) →
  LX G 177 iE Tryz.f177 vW (aY Tryz.prog 177 1) (((i:Int),(d.1,(nn,((i:Int),(d.1[i].2.1,(((d.1[i].2.1.length:Nat):Int),((j:Int),()))))))),((),(f,(es,()))))=some y:=by
 have hr:=h.rN d.1[i] (List.getElem_mem hi)
 have et:d.1.take (i+1)=d.1.take i++[d.1[i]]:=(List.take_append_getElem hi).symm
 have ev:iG (d.1.take (i+1)) 0=iG (d.1.take i) 0++d.1[i].2.1.map (fun x=>(x,(i:Int))):=by
  rw[et,I7]
  have:(d.1.take i).length=i:=by rw[List.length_take];omega
  rw[this,Nat.zero_add]
  congr 1
  show d.1[i].2.1.map (fun x=>(x,(i:Int)))++[]=_
  rw[List.append_nil]
 have nd:(ak (d.1.take i)++d.1[i].2.1).Nodup:=by
  have h1:=h.rw.n
  rw[←List.take_append_drop (i+1) d.1,et,oP,oP]at h1
  have e2:ak [d.1[i]]=d.1[i].2.1:=by rw[km];exact List.append_nil _
  rw[e2]at h1
  exact(List.nodup_append.1 h1).1
 intro n
 induction n with
 |zero =>
  intro j es hj he
  refine aB (j:=1) (by kernel_rfl) ((LI _ _ _).trans ?_)
  refine aj (decide_eq_false (show ¬((j:Int)<((d.1[i].2.1.length:Nat):Int)) by omega)) ?_
  have e:d.1[i].2.1.take j=d.1[i].2.1:=List.take_of_length_le (by omega)
  rw[e,←ev]at he
  subst he
  exact next
 |succ n ih =>
  intro j es hj he
  have aM:j<d.1[i].2.1.length:=by omega
  refine aB (j:=1) (by kernel_rfl) ((LI _ _ _).trans ?_)
  refine ae (bm aM) (aa (aR (List.getElem?_eq_getElem aM)) ?_)
  have De:d.1[i].2.1[j]∉es.map (·.1):=by
   have e3:((d.1[i].2.1.take j).map fun x=>(x,(i:Int))).map (·.1)=d.1[i].2.1.take j:=by rw[List.map_map];exact List.map_id _
   rw[he,List.map_append,xZ,e3,List.mem_append]
   rintro(k|k)
   ·exact(List.nodup_append.1 nd).2.2 _ k _ (List.getElem_mem aM) rfl
   ·obtain⟨q,hq,he⟩:=List.getElem_of_mem k
    have hq1:q<j:=by rw[List.length_take]at hq;omega
    rw[List.getElem_take]at he
    have:=(List.getElem_inj (List.nodup_append.1 nd).2.1).1 he
    omega
  have:=ih (j+1) (mQ bw d.1[i].2.1[j] (i:Int) es) (by omega) (by
   rw[R5 _ De,he,←List.take_append_getElem aM,List.map_append,List.append_assoc];rfl)
  rw[←aN aM (by omega)]at this
  exact this
theorem Ux(h:Wf d)
  (next:LX G 177 iE Tryz.f177 pV (aY Tryz.prog 177 2) ((iG d.1 0,()),((),(fI (List.range d.1.length),((none,iG d.1 0),()))))=some y):∀(n i:Nat),i+n=d.1.length →
  LX G 177 iE Tryz.f177 sI (aY Tryz.prog 177 0) ((d.1,(((d.1.length:Nat):Int),((i:Int),()))),((),(fI (List.range i),(iG (d.1.take i) 0,()))))=some y:=by
 have hn:=h.nv
 intro n
 induction n with
 |zero =>
  intro i hi
  have e:i=d.1.length:=by omega
  subst e
  refine aB (j:=0) (by kernel_rfl) ((LH _ _ _).trans ?_)
  refine aj (decide_eq_false (show ¬(((d.1.length:Nat):Int)<((d.1.length:Nat):Int)) by omega)) ?_
  rw[List.take_length]
  exact next
 |succ n ih =>
  intro i hi
  have aM:i<d.1.length:=by omega
  refine aB (j:=0) (by kernel_rfl) ((LH _ _ _).trans ?_)
  refine ae (bm aM) (aa (aR (List.getElem?_eq_getElem aM)) ?_)
  refine ae (fits (by show(fI (List.range i)).length+1≤_;rw[CM];simp;omega)) ?_
  have nx:=ih (i+1) (by omega)
  rw[←aN aM (by omega),←R6]at nx
  exact Uw (G:=G) h aM nx d.1[i].2.1.length 0 _ (by omega) (by simp)
end
end Go.Vs
namespace Go.Vs
open Go.Proofs
variable {G:(f:FuncId)→(g:aL)→Option (g.A→Option g.B)}
theorem CP(a b:Nat):CO a b a=min a b∧CO a b b=min a b:=by
 unfold CO
 constructor<;>split<;>omega
structure FoI(d:ai)(rem:List (ab×Int))(g:List Nat):Prop where
 f:Fo g
 n:g.length=d.1.length
 c:∀i,i<d.1.length→cr d (cU d i) (cU d (root g i))
 p:∀(z:ab) (i k:Nat),(z,(i:Int))∈iG d.1 0→(af z,(k:Int))∈iG d.1 0→(z,(i:Int))∉rem→root g i=root g k
theorem wz{d:ai}(h:Wf d){z:ab}{a:Int}(hm:(z,a)∈iG d.1 0):∃i:Nat,i<d.1.length∧a=(i:Int)∧z∈ak d.1∧bY d z=some (cU d i):=by
 obtain⟨k,v,h1,h2,h3⟩:=I8 hm
 rw[Nat.zero_add]at h2
 have hv:=List.mem_of_getElem? h1
 refine⟨k,(List.getElem?_eq_some_iff.1 h1).1,h2,aG.2 ⟨v,hv,h3⟩,?_⟩
 rw[gm h1]
 exact cQ h.rw hv h3
theorem KW{d:ai}(h:Wf d){z:ab}(hz:z∈ak d.1):∃i:Nat,(z,(i:Int))∈iG d.1 0:=by
 obtain⟨v,hv,hx⟩:=aG.1 hz
 obtain⟨k,hk⟩:=List.getElem?_of_mem hv
 have:=Me (i:=0) hk hx
 rw[Nat.zero_add]at this
 exact⟨k,this⟩
theorem Mf{d:ai}(h:Wf d){z:ab}{a:Int}(hm:(z,a)∈iG d.1 0):jy bw z (iG d.1 0)=some a:=by
 rw[R4]
 refine I6 ?_ hm
 rw[xZ];exact h.rw.n
theorem FoI.same{d:ai}(h:Wf d){g:List Nat}(hg:FoI d [] g){a b:ID}(k:cr d a b):∀i j,i<d.1.length→j<d.1.length→cU d i=a→cU d j=b→root g i=root g j:=by
 induction k with
 |refl=>intro i j hi hj h1 h2;rw[jQ h.sv hi hj (h1.trans h2.symm)]
 |tail _ s ih =>
  intro i j hi hj h1 h2
  obtain⟨z,hz,s1,s2⟩:=s
  obtain⟨m,hm⟩:=KW h hz
  obtain⟨q,hq⟩:=KW h (h.other hz)
  obtain⟨m',m1,m2,_,m3⟩:=wz h hm
  obtain⟨q',q1,q2,_,q3⟩:=wz h hq
  have em:m'=m:=by omega
  have eq:q'=q:=by omega
  subst em;subst eq
  rw[s1]at m3;rw[s2]at q3
  have r1:=ih i m' hi m1 h1 (Option.some.inj m3).symm
  have r2:=hg.p z m' q' hm hq (by simp)
  have ej:q'=j:=jQ h.sv q1 hj ((Option.some.inj q3).symm.trans h2.symm)
  rw[r1,r2,ej]
theorem FoI.can{d:ai}(h:Wf d){g:List Nat}(hg:FoI d [] g):IZ d (fI ((List.range d.1.length).map (root g))):=by
 have nJ:∀i,i<d.1.length→(fI ((List.range d.1.length).map (root g))).getD i 0=((root g i:Nat):Int):=fun i hi=>by
  unfold fI;simp[List.getD,hi]
 refine⟨⟨by rw[CM];simp,fun i hi=>⟨root g i,Md g i,nJ i hi,hg.c i hi⟩⟩,fun i hi j hj k=>?_⟩
 rw[nJ i hi,hg.same h k i j hi hj rfl rfl]
 have:=Md g j
 omega
theorem Uy(hG:HG G){d:ai}(h:Wf d){g:List Nat}:∀(n i:Nat) (g':List Nat),i+n=d.1.length→Fo g'→g'.length=d.1.length→(∀j,root g' j=root g j) →
  LX G 177 iE Tryz.f177 vX (aY Tryz.prog 177 3) ((((d.1.length:Nat):Int),((i:Int),())),((),(fI g',(fI ((List.range i).map (root g)),()))))=some ((fI ((List.range d.1.length).map (root g)),()),()):=by
 have Ot:=h.nv
 intro n
 induction n with
 |zero =>
  intro i g' hi h1 h2 h3
  have e:i=d.1.length:=by omega
  subst e
  refine aB (j:=3) (by kernel_rfl) ((LK _ _ _).trans ?_)
  exact aj (decide_eq_false (show ¬(((d.1.length:Nat):Int)<((d.1.length:Nat):Int)) by omega)) rfl
 |succ n ih =>
  intro i g' hi h1 h2 h3
  have aM:i<d.1.length:=by omega
  obtain⟨g2,s,e⟩:=R1 hG g' i h1 (by omega)
  refine aB (j:=3) (by kernel_rfl) ((LK _ _ _).trans ?_)
  refine ae (bm aM) (aa e ?_)
  refine ae (fits (by show(fI _).length+1≤_;rw[CM];simp;omega)) ?_
  have:=ih (i+1) g2 (by omega) s.f (by rw[s.n,h2]) (fun j=>(s.r j).trans (h3 j))
  have e2:fI ((List.range (i+1)).map (root g))=fI ((List.range i).map (root g))++[((root g' i:Nat):Int)]:=by
   rw[List.range_succ,h3 i];simp[fI]
  rw[e2,←aN aM (by omega)]at this
  exact this
theorem Uz(hG:HG G){d:ai}(h:Wf d):∀(n:Nat) (rem:List (ab×Int)) (g:List Nat) (o:Option (ab×Int)),rem.length=n→(∀e∈rem,e∈iG d.1 0)→FoI d rem g →
  LX G 177 iE Tryz.f177 pV (aY Tryz.prog 177 2) ((iG d.1 0,()),((),(fI g,((o,rem),()))))=some ((labels d,()),()):=by
 intro n
 induction n with
 |zero =>
  intro rem g o hn hr hg
  have e:rem=[]:=List.eq_nil_of_length_eq_zero hn
  subst e
  refine aB (j:=2) (by kernel_rfl) ((LJ _ _ _).trans ?_)
  refine ae rfl ?_
  have:=Uy (G:=G) hG h (g:=g) d.1.length 0 g (by omega) hg.f hg.n (fun _=>rfl)
  rw[(hg.can h).uniq h (dU h)]at this
  have e2:((fI g).length:Int)=((d.1.length:Nat):Int):=by rw[CM,hg.n]
  rw[←e2]at this
  exact this
 |succ n ih =>
  intro rem g o hn hr hg
  refine aB (j:=2) (by kernel_rfl) ((LJ _ _ _).trans ?_)
  refine aj (show rem.isEmpty=false by cases rem with|nil=>simp at hn|cons _ _=>rfl) ?_
  refine nh (show 0<rem.length by omega) fun j hj=>?_
  have hj':j<rem.length:=hj
  refine aa (List.getElem?_eq_getElem hj') ?_
  have hm:=hr _ (List.getElem_mem hj')
  generalize he:rem[j]=e at hm
  obtain⟨z,a⟩:=e
  obtain⟨i,hi,ha,hz,haz⟩:=wz h hm
  subst ha
  obtain⟨k,hk⟩:=KW h (h.other hz)
  obtain⟨k',wG,ek,_,hak⟩:=wz h hk
  have ek':k'=k:=by omega
  subst ek'
  refine aa (IP (hG _ _ rfl) z (h.side hz)) ?_
  have nJ:jy bw (af z) (iG d.1 0)=some (k':Int):=Mf h hk
  refine ae (show(jy bw (af z) (iG d.1 0)).isSome=true by rw[nJ];rfl) ?_
  obtain⟨g',h1,h2,h3,h4⟩:=abV hG g i k' hg.f (by rw[hg.n];exact hi) (by rw[hg.n];exact wG)
  refine aa (a:=((),(fI g',()))) (by
   have:(jy bw (af z) (iG d.1 0)).getD (0:Int)=(k':Int):=by rw[nJ];rfl
   rw[←this]at h4
   exact h4) ?_
  have ahs:zh d (cU d i) (cU d k'):=⟨z,hz,haz,hak⟩
  have cij:cr d (cU d (root g i)) (cU d (root g k')):=((hg.c i hi).symm h).trans (ahs.conn.trans (hg.c k' wG))
  refine ih (rem.eraseIdx j) g' _ (by rw[List.length_eraseIdx,if_pos hj'];omega) (fun e he=>hr e (List.mem_of_mem_eraseIdx he)) ⟨h1,h2.trans hg.n,fun q hq=>?_,fun y p q hp hq hy=>?_⟩
  ·rw[h3 q]
   unfold CO
   split
   ·rename_i e
    refine(hg.c q hq).trans ?_
    rw[e]
    rcases Nat.le_total (root g i) (root g k') with hle|hle
    ·rw[Nat.max_eq_right hle,Nat.min_eq_left hle];exact cij.symm h
    ·rw[Nat.max_eq_left hle,Nat.min_eq_right hle];exact cij
   ·exact hg.c q hq
  ·rw[h3 p,h3 q]
   by_cases jS:(y,(p:Int))∈rem
   ·
    have e:(y,(p:Int))=(z,(i:Int)):=by
     apply Classical.byContradiction
     intro ne
     apply hy
     rw[List.mem_eraseIdx_iff_getElem]
     obtain⟨t,ht,hte⟩:=List.getElem_of_mem jS
     refine⟨t,ht,fun k=>?_,hte⟩
     subst k
     exact ne (hte.symm.trans he)
    have e1:y=z:=congrArg Prod.fst e
    have e2:p=i:=by have:=congrArg Prod.snd e;simp at this;omega
    subst e1;subst e2
    have h5:=Mf h hq
    rw[nJ]at h5
    have e3:q=k':=by have:=Option.some.inj h5;omega
    subst e3
    rw[(CP _ _).1,(CP _ _).2]
   ·rw[hg.p y p q hp hq jS]
theorem KX(n:Nat):∀i,root (List.range n) i=i:=fun i=>by
 cases h:(List.range n)[i]? with
 |none=>exact lU h
 |some x =>
  have:x=i:=by rw[List.getElem?_range (by have:=(List.getElem?_eq_some_iff.1 h).1;simpa using this)]at h;exact(Option.some.inj h).symm
  subst this
  exact lV h
theorem abX(hG:HG G)(d:ai)(h:Wf d):FX G 177 iE ((d,()),())=some ((labels d,()),()):=by
 refine aA (fn:=Tryz.f177) (hG _ _ rfl) (by kernel_rfl) (by kernel_rfl) ((aaG _ _ _).trans ?_)
 refine Ux (G:=G) h ?_ d.1.length 0 (by omega)
 refine Uz hG h _ (iG d.1 0) (List.range d.1.length) none rfl (fun _ k=>k) ⟨fun i x hx=>?_,by simp,fun i hi=>?_,fun z i k h1 h2 h3=>absurd h1 h3⟩
 ·have:=(List.getElem?_eq_some_iff.1 hx).1
  rw[List.getElem?_range (by simpa using this)]at hx
  have:=Option.some.inj hx;omega
 ·rw[KX];exact .refl _
end Go.Vs
namespace Go.Vs
open Go.Proofs
variable {G:(f:FuncId)→(g:aL)→Option (g.A→Option g.B)}
structure PG(G:(f:FuncId)→(g:aL)→Option (g.A→Option g.B)):Prop where
 h:HG G
 f:∀d,Wf d→FX G 166 yT ((d,()),())=some ((bU d,()),())
 c:∀d,Wf d→FX G 167 yU ((d,()),())=some ((fj d,()),())
theorem abY(hp:PG G)(d:ai)(h:Wf d):FX G 153 H6 ((d,()),())=some ((((d.1.length:Nat):Int),(((d.2.length:Nat):Int),(((ft d:Nat):Int),(fj d,())))),()):=by
 have hn:=h.nv
 have hf:=wy h
 have ha:al d.1≤d.1.length:=List.countP_le_length
 refine aA (fn:=Tryz.f153) (hp.h _ _ rfl) (by kernel_rfl) (by kernel_rfl) ((aaz _ _ _).trans ?_)
 refine aa (RY hp.h d.1 (by omega)) ?_
 refine aa (hp.f d h) (aa (hp.c d h) ?_)
 have e:IntKind.wrap .i64 ((((bU d).length:Nat):Int)+((al d.1:Nat):Int))=((ft d:Nat):Int):=by
  rw[wrap_small (by omega) (by omega)];rfl
 exact congrArg (fun n:Int=>some ((((d.1.length:Nat):Int),(((d.2.length:Nat):Int),(n,(fj d,())))),())) e
theorem abZ(hp:PG G)(d:ai)(h:Wf d):FX G 136 HZ ((d,()),())=some ((bB d,()),()):=by
 have hn:=h.nv;have bp:=h.ne
 have hf:=wy h
 have ha:al d.1≤d.1.length:=List.countP_le_length
 refine aA (fn:=Tryz.f136) (hp.h _ _ rfl) (by kernel_rfl) (by kernel_rfl) ((aao _ _ _).trans ?_)
 refine aa (abY hp d h) (aj rfl ?_)
 have hr:=la h (dU h)
 obtain⟨k,e1,e2⟩:=CJ h hr
 have ec:=s5 h
 have PO:(lr d (labels d)).length≤d.1.length:=by
  unfold lr
  rw[List.length_map]
  refine Nat.le_trans (List.length_filter_le _ _) ?_
  simp
 have ZB:ft d≤80+d.1.length:=by unfold ft;omega
 refine congrArg (fun n:Int=>some ((n,()),())) ?_
 show IntKind.wrap .i64 (fj d-IntKind.wrap .i64 (Int.tdiv (IntKind.wrap .i64 ((IntKind.wrap .i64 (((d.1.length:Nat):Int)-((d.2.length:Nat):Int)))+((ft d:Nat):Int))) 2))=bB d
 rw[e1,ec]
 have hk:(k:Int)≤1000:=by omega
 rw[wrap_small (n:=((d.1.length:Nat):Int)-((d.2.length:Nat):Int)) (by omega) (by omega)]
 rw[wrap_small (n:=((d.1.length:Nat):Int)-((d.2.length:Nat):Int)+((ft d:Nat):Int)) (by omega) (by omega)]
 have e3:((d.1.length:Nat):Int)-((d.2.length:Nat):Int)+((ft d:Nat):Int)=2*((((lr d (labels d)).length:Nat):Int)-(k:Int)):=by omega
 rw[e3,Int.mul_tdiv_cancel_left _ (by decide)]
 rw[wrap_small (n:=(((lr d (labels d)).length:Nat):Int)-(k:Int)) (by omega) (by omega)]
 rw[wrap_small (by omega) (by omega)]
 omega
theorem UA(hp:PG G):KR G:=fun d h=>by
 refine aA (fn:=Tryz.f114) (hp.h _ _ rfl) (by kernel_rfl) (by kernel_rfl) ((ZX _ _ _).trans ?_)
 refine aa (abZ hp d h) ?_
 refine congrArg (fun b:Bool=>some ((b,()),())) ?_
 show(bB d==0)=decide (bB d=0)
 rw[Bool.eq_iff_iff];simp
end Go.Vs
