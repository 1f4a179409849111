/- What the program computes of faces, parts and whether a diagram lies in the plane. -/
import Derived.Test.YtpkfpbpbkabkdaaGreatSplits
import Derived.Test.YtpkfpbpbkabkdaaGreatEuler
set_option linter.unusedVariables false
set_option linter.unusedSimpArgs false
namespace Go.Vs
open Go.Proofs
variable {G:(f:FuncId)→(g:aJ)→Option (g.A→Option g.B)}
theorem J2(w:ag)(r:List ag)(x:ID):aR (w::r) x=if w.1=x then some w else aR r x:=by
 unfold aR;rw[List.find?_cons];by_cases h:w.1=x<;>simp[h]
theorem Rd(hG:HG G)(l:List ag)(x:ID)(hl:l.length≤1073741824):FX G 110108 kf ((l,x,()),())=some (pw zV (aR l x),()):=by
 refine au (fn:=Tryz.f108) (hG _ _ rfl) (by kernel_rfl) (by kernel_rfl) ((P2 _ _ _).trans ?_)
 have loop:∀(n i:Nat),i+n=l.length→LX G 110108 kf Tryz.f108 lR (aN Tryz.prog 108 0) ((l,(((l.length:Nat):Int),((i:Int),()))),(((x,()),(((0:Int),((0:Int),(([]:List ab),(e0,((0:Int),()))))),())),()))=some (pw zV (aR (l.drop i) x),()):=by
  intro n
  induction n with
  |zero =>
   intro i hi
   refine ar (j:=0) (by kernel_rfl) ((A4 _ _ _).trans ?_)
   refine af (decide_eq_false (show ¬((i:Int)<((l.length:Nat):Int)) by omega)) ?_
   rw[List.drop_eq_nil_of_le (by omega)];rfl
  |succ n ih =>
   intro i hi
   have aF:i<l.length:=by omega
   have agu:FX G 109 GS ((l[i],()),())=some ((l[i].1,()),()):=au (fn:=Tryz.f109) (hG _ _ rfl) (by kernel_rfl) (by kernel_rfl) (Zr _ _ _)
   refine ar (j:=0) (by kernel_rfl) ((A4 _ _ _).trans ?_)
   refine ae (aW aF) (aa (aI (List.getElem?_eq_getElem aF)) ?_)
   refine aa agu ?_
   rw[List.drop_eq_getElem_cons aF,J2]
   by_cases he:l[i].1=x
   ·rw[if_pos he]
    exact ae ((jn l[i].1 x).trans (decide_eq_true he)) rfl
   ·rw[if_neg he]
    refine af ((jn l[i].1 x).trans (decide_eq_false he)) ?_
    have:=ih (i+1) (by omega)
    rw[←aG aF hl]at this
    exact this
 have:=loop l.length 0 (by omega)
 rw[List.drop_zero]at this
 exact this
theorem aa8(hG:HG G)(d:aj)(x:ID)(hs:Sm d):FX G 74 GO ((d,x,()),())=some (pw zV (bp d x),()):=by
 have hv:=hs.v
 refine au (fn:=Tryz.f74) (hG _ _ rfl) (by kernel_rfl) (by kernel_rfl) ((Zd _ _ _).trans ?_)
 refine aa (Rd hG d.1 x (by omega)) ?_
 unfold bp
 cases hf:aR d.1 x with
 |none=>exact aa (WB (hG _ _ rfl) [] (by simp)) rfl
 |some v=>exact aa (WB (hG _ _ rfl) v.2.1 (hs.r v (gm hf))) rfl
theorem Re(w:ag)(r:List ag)(x:ab):EU (w::r) x=if x∈w.2.1 then some w.1 else EU r x:=by
 unfold EU;rw[List.find?_cons];by_cases h:x∈w.2.1<;>simp[h]
theorem Vc(hG:HG G)(d:aj)(x:ab)(hs:Sm d):FX G 139 uE ((d,x,()),())=some (pw zI (cm d x),()):=by
 have hv:=hs.v
 refine au (fn:=Tryz.f139) (hG _ _ rfl) (by kernel_rfl) (by kernel_rfl) ((Zs _ _ _).trans ?_)
 have loop:∀(n i:Nat),i+n=d.1.length→LX G 139 uE Tryz.f139 uO (aN Tryz.prog 139 0) ((d.1,(((d.1.length:Nat):Int),((i:Int),()))),(((x,()),((zI,()),())),()))=some (pw zI (EU (d.1.drop i) x),()):=by
  intro n
  induction n with
  |zero =>
   intro i hi
   refine ar (j:=0) (by kernel_rfl) ((KN _ _ _).trans ?_)
   refine af (decide_eq_false (show ¬((i:Int)<((d.1.length:Nat):Int)) by omega)) ?_
   rw[List.drop_eq_nil_of_le (by omega)];rfl
  |succ n ih =>
   intro i hi
   have aF:i<d.1.length:=by omega
   refine ar (j:=0) (by kernel_rfl) ((KN _ _ _).trans ?_)
   refine ae (aW aF) (aa (aI (List.getElem?_eq_getElem aF)) ?_)
   refine aa (Dy hG d.1[i].2.1 x (by have:=hs.r _ (List.getElem_mem aF);omega)) ?_
   rw[List.drop_eq_getElem_cons aF,Re]
   by_cases he:x∈d.1[i].2.1
   ·rw[if_pos he]
    exact ae (decide_eq_true he) rfl
   ·rw[if_neg he]
    refine af (decide_eq_false he) ?_
    have:=ih (i+1) (by omega)
    rw[←aG aF (by omega)]at this
    exact this
 have:=loop d.1.length 0 (by omega)
 rw[List.drop_zero]at this
 exact this
def J3(x:ab):List aw→Int→Int
 |[],_ => -1
 |g::r,i=>if g.1=x then i else J3 x r (i+1)
theorem H3(x:ab):∀(l:List aw) (i:Nat),(J3 x l i = -1∧fV l x=none)∨∃k g,J3 x l (i:Int)=((i+k:Nat):Int)∧l[k]? = some g∧fV l x=some g.2
 |[],i=>.inl ⟨rfl,rfl⟩
 |g::r,i=>by
  rw[J3,oY]
  by_cases h:g.1=x
  ·rw[if_pos h,if_pos h]
   exact .inr ⟨0,g,by simp,by simp,rfl⟩
  ·rw[if_neg h,if_neg h]
   have e:(i:Int)+1=((i+1:Nat):Int):=by omega
   rw[e]
   rcases H3 x r (i+1) with⟨h1,h2⟩|⟨k,q,h1,h2,h3⟩
   ·exact .inl ⟨h1,h2⟩
   ·exact .inr ⟨k+1,q,by rw[h1];congr 1;omega,by simpa using h2,h3⟩
theorem Rf(hG:HG G)(l:List aw)(x:ab)(hl:l.length≤1073741824):FX G 246244 je ((l,()),((x,()),()))=some ((J3 x l 0,()),((x,()),())):=by
 refine au (fn:=Tryz.f244) (hG _ _ rfl) (by kernel_rfl) (by kernel_rfl) ((P4 _ _ _).trans ?_)
 have loop:∀(n i:Nat),i+n=l.length→LX G 246244 je Tryz.f244 jI (aN Tryz.prog 244 0) ((l,(((l.length:Nat):Int),((i:Int),()))),(((x,()),()),()))=some ((J3 x (l.drop i) i,()),((x,()),())):=by
  intro n
  induction n with
  |zero =>
   intro i hi
   refine ar (j:=0) (by kernel_rfl) ((A6 _ _ _).trans ?_)
   refine af (decide_eq_false (show ¬((i:Int)<((l.length:Nat):Int)) by omega)) ?_
   rw[List.drop_eq_nil_of_le (by omega)];rfl
  |succ n ih =>
   intro i hi
   have aF:i<l.length:=by omega
   have agv:FX G 245 GX ((l[i],()),((x.1.1,(x.1.2,(x.2,()))),()))=some (((((l[i].1.1.1==x.1.1)&&(l[i].1.1.2==x.1.2))&&(l[i].1.2==x.2)),()),((x.1.1,(x.1.2,(x.2,()))),())) :=
    au (fn:=Tryz.f245) (hG _ _ rfl) (by kernel_rfl) (by kernel_rfl) (Zx _ _ _)
   refine ar (j:=0) (by kernel_rfl) ((A6 _ _ _).trans ?_)
   refine ae (aW aF) (aa (aI (List.getElem?_eq_getElem aF)) ?_)
   refine aa agv ?_
   rw[List.drop_eq_getElem_cons aF,J3]
   by_cases he:l[i].1=x
   ·rw[if_pos he]
    exact ae ((kD l[i].1 x).trans (decide_eq_true he)) rfl
   ·rw[if_neg he]
    refine af ((kD l[i].1 x).trans (decide_eq_false he)) ?_
    have:=ih (i+1) (by omega)
    have e:=aG aF hl
    show LX G 246244 je Tryz.f244 jI (aN Tryz.prog 244 0) ((l,(((l.length:Nat):Int),(IntKind.wrap .i64 ((i:Int)+1),()))),(((x,()),()),()))=some ((J3 x (l.drop (i+1)) ((i+1:Nat):Int),()),((x,()),()))
    rw[e]
    exact this
 have:=loop l.length 0 (by omega)
 rw[List.drop_zero]at this
 exact this
theorem aa9(hG:HG G)(l:List aw)(x:ab)(hl:l.length≤1073741824):FX G 230 GU ((l,x,()),())=some (pw zD (fV l x),()):=by
 refine au (fn:=Tryz.f230) (hG _ _ rfl) (by kernel_rfl) (by kernel_rfl) ((Zt _ _ _).trans ?_)
 refine aa (Rf hG l x hl) ?_
 rcases H3 x l 0 with⟨h1,h2⟩|⟨k,g,h1,h2,h3⟩
 ·have h1:J3 x l 0 = -1:=h1
  rw[h2]
  exact ae (decide_eq_true (show J3 x l 0<0 by omega)) rfl
 ·have h1:J3 x l 0=(k:Int):=by
   have:J3 x l ((0:Nat):Int)=J3 x l 0:=rfl
   rw[←this,h1];congr 1;omega
  rw[h3]
  refine af (decide_eq_false (show ¬J3 x l 0<0 by omega)) ?_
  refine aa (show aX l (J3 x l 0)=some g by rw[h1];exact aI h2) ?_
  rfl
theorem aba(hG:HG G)(s:StateT)(x:ab)(hs:Sm s.1)(hg:s.2.length≤50000000):FX G 212 xw ((s,x,()),())=some ((resolve s x,()),()):=by
 refine au (fn:=Tryz.f212) (hG _ _ rfl) (by kernel_rfl) (by kernel_rfl) ((Ze _ _ _).trans ?_)
 have hw:IntKind.wrap .i64 (((s.2.length:Nat):Int)+1)=((s.2.length+1:Nat):Int):=by rw[wrap_small (by omega) (by omega)];rfl
 have loop:∀(n i:Nat) (y:ab),i+n=s.2.length+1→LX G 212 xw Tryz.f212 uK (aN Tryz.prog 212 0) (((IntKind.wrap .i64 (((s.2.length:Nat):Int)+1)),((i:Int),())),(((s,()),((y,()),((zD,()),()))),()))=some ((res s.1 s.2 n y,()),()):=by
  intro n
  induction n with
  |zero =>
   intro i y hi
   refine ar (j:=0) (by kernel_rfl) ((KI _ _ _).trans ?_)
   exact af (decide_eq_false (show ¬((i:Int)<IntKind.wrap .i64 (((s.2.length:Nat):Int)+1)) by rw[hw];omega)) rfl
  |succ n ih =>
   intro i y hi
   refine ar (j:=0) (by kernel_rfl) ((KI _ _ _).trans ?_)
   refine ae (decide_eq_true (show((i:Int)<IntKind.wrap .i64 (((s.2.length:Nat):Int)+1)) by rw[hw];omega)) ?_
   refine aa (Vc hG s.1 y hs) ?_
   rw[res]
   have h1:(pw zI (cm s.1 y)).2.1=(cm s.1 y).isSome:=gX _ _
   cases ha:(cm s.1 y).isSome
   ·rw[if_neg (by simp)]
    refine af (h1.trans ha) ?_
    refine aa (aa9 hG s.2 y (by omega)) ?_
    cases hf:fV s.2 y with
    |none=>exact ae rfl rfl
    |some z =>
     refine af rfl ?_
     have:=ih (i+1) z (by omega)
     have e:IntKind.wrap .i64 ((i:Int)+1)=((i+1:Nat):Int):=by rw[wrap_small (by omega) (by omega)];rfl
     rw[←e]at this
     exact this
   ·rw[if_pos rfl]
    exact ae (h1.trans ha) rfl
 exact loop (s.2.length+1) 0 x (by omega)
theorem abb(hG:HG G)(s:StateT)(c:pn)(hs:Sm s.1)(hg:s.2.length≤50000000):FX G 180 GL ((s,c,()),())=some (aY s c,()):=by
 refine au (fn:=Tryz.f180) (hG _ _ rfl) (by kernel_rfl) (by kernel_rfl) ((YY _ _ _).trans ?_)
 refine aa (aa8 hG s.1 c.1 hs) ?_
 unfold aY
 cases hf:bp s.1 c.1 with
 |none=>exact ae rfl rfl
 |some v =>
  refine af rfl ?_
  refine aa (aba hG s c.2 hs hg) ?_
  refine aa (Dy hG v.2.1 (resolve s c.2) (by have:=hs.r v (gm hf);omega)) ?_
  show _=some (((c.1,u4 s c v),((0:Int),())),())
  unfold u4
  by_cases hm:resolve s c.2∈v.2.1
  ·rw[if_pos hm]
   exact bj (decide_eq_true hm) rfl
  ·rw[if_neg hm]
   exact bj (decide_eq_false hm) rfl
def J4(G:(f:FuncId)→(g:aJ)→Option (g.A→Option g.B)):Prop:=∀d,Wf d→FX G 172 Aq ((d,()),())=some ((decide (jg d=0),()),())
theorem Li{l:List ag}{e:List ah}{c:pn}{v:ag}(hs:bX l)(hf:aR l c.1=some v)(x:ab):l.set (bD l c.1) (v.1,(lT v.2.1 c.2 x,v.2.2))=(bN (l,e) c x).1:=by
 rw[JP hs (c8 hs hf)]
 have hi:=kq hf
 have hm:=gm hf
 unfold bN Vs.b6
 rw[←hi,jO (d:=(l,e)) hs hm]
theorem BJ{d:aj}(h:Wf d):oM d.1 d.2=true:=by
 unfold oM
 have h1:=h.nv;have h2:=h.ne
 simp only[Bool.and_eq_true,decide_eq_true_eq,List.all_eq_true]
 exact⟨by omega,by omega,fun v hv=>by have:=h.tD v hv;omega⟩
theorem TH(hG:HG G)(hp:J4 G)(o:ba):ig G o:=by
 intro s h hm NA
 have So:=h.d.nv;have bq:=h.d.ne;have hn:=h.n
 have TE:=h.d.small
 have bL:=QF hm
 have start:∀(e:Int) (w:aQ),bS 154 oP Tryz.f154 (FX G) (LX G 154 oP Tryz.f154) ((o,()),(aH s,()))=some ((e,()),(w,()))→FX G 154 oP ((o,()),(aH s,()))=some ((e,()),(w,())):=fun e w a =>
  au (fn:=Tryz.f154) (hG _ _ rfl) (by kernel_rfl) (by kernel_rfl) a
 have f110:=U3 hG (aH s) (aV o) h.d.se (by show s.1.2.length≤_;omega)
 unfold py
 cases hf:(aU s.1.2 (aV o)).isSome with
 |true =>
  have e1:sL (aH s) (aV o)=(12,aH s):=if_pos hf
  rw[e1]at f110
  refine⟨12,aH s,start _ _ ((Wc _ _ _).trans (ae (BJ h.d) (aa f110 (ae rfl rfl)))),?_⟩
  rw[if_pos (show(gD s.1 (aV o)).isSome=true from hf)];rfl
 |false =>
 rw[if_neg (show ¬(gD s.1 (aV o)).isSome=true by show ¬(aU s.1.2 (aV o)).isSome=true;rw[hf];simp)]
 by_cases h40:40≤s.1.2.length
 ·have e1:sL (aH s) (aV o)=(3,aH s):=(if_neg (show ¬(aU s.1.2 (aV o)).isSome=true by rw[hf];simp)).trans (if_pos h40)
  rw[e1]at f110
  refine⟨3,aH s,start _ _ ((Wc _ _ _).trans (ae (BJ h.d) (aa f110 (ae rfl rfl)))),?_⟩
  rw[if_pos h40];rfl
 rw[if_neg h40]
 obtain⟨E,hE⟩:∃E,E=dp (aV o,(e0,0)) s.1.2:=⟨_,rfl⟩
 have e1:sL (aH s) (aV o)=(0,(s.1.1,(E,(s.2,())))):=by rw[hE];exact(if_neg (show ¬(aU s.1.2 (aV o)).isSome=true by rw[hf];simp)).trans (if_neg h40)
 rw[e1]at f110
 obtain⟨x,hx⟩:∃x:ab,x=(aV o,0):=⟨_,rfl⟩
 obtain⟨y,hy⟩:∃y:ab,y=(aV o,1):=⟨_,rfl⟩
 have f111:FX G 179 Ao ((aV o,()),())=some ((x,y,()),()):=by
  rw[hx,hy];exact au (fn:=Tryz.f179) (hG _ _ rfl) (by kernel_rfl) (by kernel_rfl) (UK _ _ _)
 have f112:=fun c:pn=>abb hG s c h.d.sm (by omega)
 have go:∀(e:Int) (w:aQ),LX G 154 oP Tryz.f154 lQ (aN Tryz.prog 154 0) (((2:Int),((0:Int),())),(((s.1.1,(E,(s.2,()))),((s,()),((x,()),()))),([x,y],([oA o,oB o],()))))=some ((e,()),(w,()))→FX G 154 oP ((o,()),(aH s,()))=some ((e,()),(w,())):=fun e w a =>
  start _ _ ((Wc _ _ _).trans (ae (BJ h.d) (aa f110 (af rfl (aa f111 a)))))
 by_cases hA:(aY s (oA o)).2.1=0
 case neg =>
  rw[if_pos hA]
  have agw:aY s (oA o)=(zC,(13,())):=by
   unfold aY at hA ⊢
   cases hv:bp s.1 (oA o).1 with
   |none=>rfl
   |some v=>rw[hv]at hA;exact absurd rfl hA
  refine⟨13,(s.1.1,(E,(s.2,()))),go _ _ ?_,rfl⟩
  refine ar (j:=0) (by kernel_rfl) ((wi _ _ _).trans ?_)
  refine ae rfl (ae rfl (aa (a:=oA o) rfl (aa (f112 (oA o)) ?_)))
  rw[agw]
  exact ae rfl rfl
 rw[if_neg (fun k=>k hA)]
 obtain⟨va,ca⟩:=oZ hA
 obtain⟨cA,hcA⟩:∃c:pn,c=(aY s (oA o)).1:=⟨_,rfl⟩
 have eA:aY s (oA o)=(cA,(0,())):=by
  rw[hcA]
  have:(aY s (oA o)).2=(0,()):=by
   have h1:(aY s (oA o)).2=((aY s (oA o)).2.1,()):=rfl
   rw[h1,hA]
  rw[←this]
 have cAv:(aR s.1.1 cA.1).isSome=true:=by rw[hcA,ca];exact va
 obtain⟨v1,ud⟩:=Option.isSome_iff_exists.1 cAv
 have WQ:=gm ud
 obtain⟨d1,MZ⟩:∃d1:aj,d1=bN (s.1.1,E) cA x:=⟨_,rfl⟩
 have agy:s.1.1.set (bD s.1.1 cA.1) (v1.1,(lT v1.2.1 cA.2 x,v1.2.2))=d1.1:=by rw[MZ];exact Li h.d.sv ud x
 have Vd:bX d1.1:=by rw[MZ];exact h.d.sv.re _ _
 have hl1:=(List.getElem?_eq_some_iff.1 (c8 h.d.sv ud)).1
 have Ve:∀v∈d1.1,v.2.1.length≤50000000:=fun v hv=>by
  rw[MZ]at hv
  obtain⟨w,hw,rfl⟩:=List.mem_map.1 (show v∈s.1.1.map (rC cA.1 (lT (bJ (s.1.1,E) cA.1) cA.2 x)) from hv)
  have h1:=h.d.tD w hw
  unfold rC
  split
  ·have h2:=xG (bJ (s.1.1,E) cA.1) cA.2 x
   have h3:(bJ (s.1.1,E) cA.1).length≤80:=by
    rw[←kq ud,jO (d:=(s.1.1,E)) h.d.sv WQ]
    exact h.d.tD v1 WQ
   show(lT (bJ (s.1.1,E) cA.1) cA.2 x).length≤50000000
   omega
  ·omega
 have d1l:d1.1.length=s.1.1.length:=by rw[MZ];exact fb _ _ _
 have Vf:∀(e:Int) (w:aQ),LX G 154 oP Tryz.f154 lQ (aN Tryz.prog 154 0) (((2:Int),((1:Int),())),(((d1.1,(E,(s.2,()))),((s,()),((x,()),()))),([x,y],([oA o,oB o],()))))=some ((e,()),(w,()))→FX G 154 oP ((o,()),(aH s,()))=some ((e,()),(w,())):=fun e w a=>by
  refine go _ _ ?_
  refine ar (j:=0) (by kernel_rfl) ((wi _ _ _).trans ?_)
  refine ae rfl (ae rfl (aa (a:=oA o) rfl (aa (f112 (oA o)) ?_)))
  rw[eA]
  refine af rfl (af rfl ?_)
  refine aa (pC hG (s.1.1,(E,(s.2,()))) cA.1 h.d.sv TE.n) ?_
  refine ae (dq (eT _) (aW hl1)) (aa (c8 h.d.sv ud) ?_)
  refine ae rfl (aa (a:=x) rfl ?_)
  refine aa (QD hG v1.2.1 cA.2 x (TE.r v1 WQ)) ?_
  refine aa (c8 h.d.sv ud) ?_
  have key:∀a1:List ag,a1=d1.1→LX G 154 oP Tryz.f154 lQ (aN Tryz.prog 154 0) (((2:Int),((1:Int),())),(((a1,(E,(s.2,()))),((s,()),((x,()),()))),([x,y],([oA o,oB o],()))))=some ((e,()),(w,())):=fun a1 DR=>by subst DR;exact a
  exact key _ agy
 by_cases hB:(aY s (oB o)).2.1=0
 case neg =>
  rw[if_pos hB]
  have agz:aY s (oB o)=(zC,(13,())):=by
   unfold aY at hB ⊢
   cases hv:bp s.1 (oB o).1 with
   |none=>rfl
   |some v=>rw[hv]at hB;exact absurd rfl hB
  refine⟨13,(d1.1,(E,(s.2,()))),Vf _ _ ?_,rfl⟩
  refine ar (j:=0) (by kernel_rfl) ((wi _ _ _).trans ?_)
  refine ae rfl (ae rfl (aa (a:=oB o) rfl (aa (f112 (oB o)) ?_)))
  rw[agz]
  exact ae rfl rfl
 rw[if_neg (fun k=>k hB)]
 obtain⟨vb,cb⟩:=oZ hB
 obtain⟨cB,hcB⟩:∃c:pn,c=if(bp s.1 (oB o).1).isSome=true∧(oB o).2=(aV o,0) then oB o else(aY s (oB o)).1:=⟨_,rfl⟩
 have eB:aY s (oB o)=((aY s (oB o)).1,(0,())):=by
  have:(aY s (oB o)).2=(0,()):=by
   have h1:(aY s (oB o)).2=((aY s (oB o)).2.1,()):=rfl
   rw[h1,hB]
  rw[←this]
 have cB1:cB.1=(oB o).1:=by rw[hcB];split;rfl;exact cb
 have cBv:(aR d1.1 cB.1).isSome=true:=by
  rw[MZ]
  exact vf _ (by rw[cB1];exact vb)
 obtain⟨v2,wY⟩:=Option.isSome_iff_exists.1 cBv
 have abe:=gm wY
 have sf:=(List.getElem?_eq_some_iff.1 (c8 Vd wY)).1
 obtain⟨d2,SF⟩:∃d2:aj,d2=bN d1 cB y:=⟨_,rfl⟩
 have TI:d1.1.set (bD d1.1 cB.1) (v2.1,(lT v2.2.1 cB.2 y,v2.2.2))=d2.1:=by rw[SF];exact Li (e:=d1.2) Vd wY y
 have Vg:fX s o=d2:=by
  rw[SF,MZ,hcA,hcB,hx,hy,hE];rfl
 have hE2:d2.2=E:=by rw[SF,MZ];rfl
 have hwf:Wf d2:=by
  rw[←Vg]
  unfold fX
  have hn0:aU s.1.2 (aV o)=none:=by simpa using hf
  refine h.d.link bL hn0 h40 (by rw[ca];exact va) ?_
  rw[←hcB,cB1];exact vb
 have last:∀(e:Int) (w:aQ),LX G 154 oP Tryz.f154 lQ (aN Tryz.prog 154 0) (((2:Int),((2:Int),())),(((d2.1,(E,(s.2,()))),((s,()),((x,()),()))),([x,y],([oA o,oB o],()))))=some ((e,()),(w,()))→FX G 154 oP ((o,()),(aH s,()))=some ((e,()),(w,())):=fun e w a=>by
  refine Vf _ _ ?_
  refine ar (j:=0) (by kernel_rfl) ((wi _ _ _).trans ?_)
  refine ae rfl (ae rfl (aa (a:=oB o) rfl (aa (f112 (oB o)) ?_)))
  rw[eB]
  have key:∀a2:List ag,a2=d2.1→LX G 154 oP Tryz.f154 lQ (aN Tryz.prog 154 0) (((2:Int),((2:Int),())),(((a2,(E,(s.2,()))),((s,()),((x,()),()))),([x,y],([oA o,oB o],()))))=some ((e,()),(w,())):=fun a2 CB=>by subst CB;exact a
  refine af rfl (ae rfl ?_)
  have pH:=kD (oB o).2 x
  by_cases XJ:(oB o).2=x
  ·have ecB:cB=oB o:=by rw[hcB];exact if_pos ⟨vb,XJ.trans hx⟩
   refine ae (pH.trans (decide_eq_true XJ)) ?_
   rw[ecB]at wY sf TI
   refine aa (pC hG (d1.1,(E,(s.2,()))) (oB o).1 Vd (by show d1.1.length≤_;omega)) ?_
   refine ae (dq (eT _) (aW sf)) (aa (c8 Vd wY) ?_)
   refine ae rfl (aa (a:=y) rfl ?_)
   refine aa (QD hG v2.2.1 (oB o).2 y (Ve v2 abe)) ?_
   refine aa (c8 Vd wY) ?_
   exact key _ TI
  ·have ecB:cB=(aY s (oB o)).1:=by rw[hcB];exact if_neg (fun k=>XJ (k.2.trans hx.symm))
   refine af (pH.trans (decide_eq_false XJ)) ?_
   rw[ecB]at wY sf TI
   refine aa (pC hG (d1.1,(E,(s.2,()))) (aY s (oB o)).1.1 Vd (by show d1.1.length≤_;omega)) ?_
   refine ae (dq (eT _) (aW sf)) (aa (c8 Vd wY) ?_)
   refine ae rfl (aa (a:=y) rfl ?_)
   refine aa (QD hG v2.2.1 (aY s (oB o)).1.2 y (Ve v2 abe)) ?_
   refine aa (c8 Vd wY) ?_
   exact key _ TI
 have f114:=hp d2 hwf
 rw[Vg]
 have e2:(d2.1,E)=d2:=by rw[←hE2]
 by_cases hg:jg d2=0
 ·rw[if_neg (fun k=>k hg)]
  refine⟨0,(d2.1,(E,(s.2,()))),last _ _ ?_,?_⟩
  ·refine ar (j:=0) (by kernel_rfl) ((wi _ _ _).trans ?_)
   refine af rfl ?_
   have key:∀q:aj,q=d2→((FX G 172 Aq ((q,()),())).bind fun(Dn:((Bool×Unit)×Unit))=>cond (not Dn.1.1) (some (((15:Int),()),((d2.1,(E,(s.2,()))),()))) (some (((0:Int),()),((d2.1,(E,(s.2,()))),()))))=some (((0:Int),()),((d2.1,(E,(s.2,()))),())):=fun q hq=>by
    subst hq
    exact aa f114 (bj (decide_eq_true hg) rfl)
   exact key _ e2
  ·show(yK (d2.1,(E,(s.2,()))),((0:Int),()))=((d2,s.2),(0,()))
   show(((d2.1,E),s.2),((0:Int),()))=((d2,s.2),(0,()))
   rw[e2]
 ·rw[if_pos hg]
  refine⟨15,(d2.1,(E,(s.2,()))),last _ _ ?_,rfl⟩
  refine ar (j:=0) (by kernel_rfl) ((wi _ _ _).trans ?_)
  refine af rfl ?_
  have key:∀q:aj,q=d2→((FX G 172 Aq ((q,()),())).bind fun(Dn:((Bool×Unit)×Unit))=>cond (not Dn.1.1) (some (((15:Int),()),((d2.1,(E,(s.2,()))),()))) (some (((0:Int),()),((d2.1,(E,(s.2,()))),()))))=some (((15:Int),()),((d2.1,(E,(s.2,()))),())):=fun q hq=>by
   subst hq
   exact aa f114 (bj (decide_eq_false hg) rfl)
  exact key _ e2
end Go.Vs
namespace Go.Vs
open Go.Proofs
variable {G:(f:FuncId)→(g:aJ)→Option (g.A→Option g.B)}
theorem abf(hG:HG G)(row:List ab)(d:ab)(hl:row.length≤100000000):FX G 261 G1 ((row,d,()),())=some (Ho (dF row d 1),()):=by
 refine au (fn:=Tryz.f261) (hG _ _ rfl) (by kernel_rfl) (by kernel_rfl) ((ZF _ _ _).trans ?_)
 have key:FX G 167 Aw ((row,(d,((1:Int),()))),())=some (Ho (dF row d 1),()):=by
  refine au (fn:=Tryz.f167) (hG _ _ rfl) (by kernel_rfl) (by kernel_rfl) ((UL _ _ _).trans ?_)
  refine aa (Bl (hG _ _ rfl) row d (by omega)) ?_
  unfold dF
  by_cases hd:d∈row
  ·rw[if_pos hd]
   obtain⟨k,h1,h2,h3⟩:=fi hd
   have aF:=(List.getElem?_eq_some_iff.1 h2).1
   refine af (decide_eq_false (show ¬idx d row 0<0 by omega)) ?_
   refine af (ET hd) ?_
   have Ny:IntKind.wrap .i64 (idx d row 0+1)=((k+1:Nat):Int):=by rw[h1,wrap_small (by omega) (by omega)];rfl
   have wx:(k+1)%row.length<row.length:=Nat.mod_lt _ (by omega)
   have hx:=List.getElem?_eq_getElem wx
   refine aa (show aX row (Int.tmod (IntKind.wrap .i64 (idx d row 0+1)) ((row.length:Nat):Int))=some row[(k+1)%row.length] by rw[Ny,qE];exact aI hx) ?_
   rw[h1,Int.toNat_natCast,hx];rfl
  ·rw[if_neg hd]
   exact ae (decide_eq_true (ep.2 hd)) rfl
 refine aa key ?_
 rfl
def H4(x:ab):List ag→Option ab
 |[]=>none
 |v::r=>if x∈v.2.1 then dF v.2.1 x 1 else H4 x r
theorem Lj{l:List ag}(h:Rw l){v:ag}{x:ab}(hv:v∈l)(hx:x∈v.2.1):∀r,(∀u∈r,u∈l)→v∈r→H4 x r=dF v.2.1 x 1
 |[],_,k=>by cases k
 |u::r,hs,k=>by
  rw[H4]
  by_cases hu:x∈u.2.1
  ·rw[if_pos hu,h.one hv (hs u List.mem_cons_self) hx hu]
  ·rw[if_neg hu]
   rcases List.mem_cons.1 k with e|k
   ·rw[e]at hx;exact absurd hx hu
   ·exact Lj h hv hx r (fun w hw=>hs w (List.mem_cons_of_mem _ hw)) k
theorem DS{x:ab}:∀{l:List ag},x∉aq l→H4 x l=none
 |[],_=>rfl
 |v::r,h=>by
  rw[jM,List.mem_append]at h
  rw[H4,if_neg (fun k=>h (.inl k))]
  exact DS fun k=>h (.inr k)
theorem J5{d:aj}(h:Rw d.1)(x:ab):H4 x d.1=nL d x:=by
 by_cases hx:x∈aq d.1
 ·obtain⟨v,hv,kE⟩:=br.1 hx
  rw[BC h hv kE]
  exact Lj h hv kE d.1 (fun _ k=>k) hv
 ·rw[DS hx]
  unfold nL cm
  rw[HD hx]
theorem abg(hG:HG G)(d:aj)(x:ab)(hs:Sm d)(h:Rw d.1):FX G 258 xz ((d,x,()),())=some (Ho (nL d x),()):=by
 have hv:=hs.v
 rw[←J5 h x]
 refine au (fn:=Tryz.f258) (hG _ _ rfl) (by kernel_rfl) (by kernel_rfl) ((ZC _ _ _).trans ?_)
 have loop:∀(n i:Nat),i+n=d.1.length→LX G 258 xz Tryz.f258 uS (aN Tryz.prog 258 0) ((d.1,(((d.1.length:Nat):Int),((i:Int),()))),(((x,()),((zD,()),())),()))=some (Ho (H4 x (d.1.drop i)),()):=by
  intro n
  induction n with
  |zero =>
   intro i hi
   refine ar (j:=0) (by kernel_rfl) ((KT _ _ _).trans ?_)
   refine af (decide_eq_false (show ¬((i:Int)<((d.1.length:Nat):Int)) by omega)) ?_
   rw[List.drop_eq_nil_of_le (by omega)];rfl
  |succ n ih =>
   intro i hi
   have aF:i<d.1.length:=by omega
   refine ar (j:=0) (by kernel_rfl) ((KT _ _ _).trans ?_)
   refine ae (aW aF) (aa (aI (List.getElem?_eq_getElem aF)) ?_)
   refine aa (abf hG d.1[i].2.1 x (by have:=hs.r _ (List.getElem_mem aF);omega)) ?_
   rw[List.drop_eq_getElem_cons aF,H4]
   by_cases he:x∈d.1[i].2.1
   ·rw[if_pos he]
    unfold dF
    rw[if_pos he]
    obtain⟨k,h1,h2,h3⟩:=fi he
    have hl:=(List.getElem?_eq_some_iff.1 h2).1
    have hm:((idx x d.1[i].2.1 0).toNat+1)%d.1[i].2.1.length<d.1[i].2.1.length:=Nat.mod_lt _ (by omega)
    rw[List.getElem?_eq_getElem hm]
    exact ae rfl rfl
   ·rw[if_neg he]
    unfold dF
    rw[if_neg he]
    refine af rfl ?_
    have:=ih (i+1) (by omega)
    rw[←aG aF (by omega)]at this
    exact this
 have:=loop d.1.length 0 (by omega)
 rw[List.drop_zero]at this
 exact this
theorem at_mem{d:aj}{x:ab}(h:(cm d x).isSome=true):x∈aq d.1:=by
 apply Classical.byContradiction
 intro k
 unfold cm at h
 rw[HD k]at h
 cases h
theorem abh(hG:HG G)(d:aj)(x:ab)(h:Wf d):FX G 255 Dh ((d,x,()),())=some (Ho (Ht d x),()):=by
 have hs:=h.sm
 refine au (fn:=Tryz.f255) (hG _ _ rfl) (by kernel_rfl) (by kernel_rfl) ((ZA _ _ _).trans ?_)
 refine aa (Vc hG d x hs) ?_
 have h1:(pw zI (cm d x)).2.1=(cm d x).isSome:=gX _ _
 unfold Ht
 cases ha:(cm d x).isSome
 ·rw[if_neg (by simp)]
  exact bj (h1.trans ha) rfl
 ·rw[if_pos rfl]
  refine bj (h1.trans ha) ?_
  refine aa (HK (hG _ _ rfl) x (h.side (at_mem ha))) ?_
  exact aa (abg hG d (ao x) hs h.rw) rfl
theorem abi(hG:HG G)(d:aj)(hs:Sm d):FX G 249 uF ((d,()),())=some ((eu d.2,()),()):=by
 have he:=hs.e
 refine au (fn:=Tryz.f249) (hG _ _ rfl) (by kernel_rfl) (by kernel_rfl) ((Zz _ _ _).trans ?_)
 have loop:∀(n i:Nat) (out:List ab),i+n=d.2.length→out.length=2*i→LX G 249 uF Tryz.f249 uP (aN Tryz.prog 249 0) ((d.2,(((d.2.length:Nat):Int),((i:Int),()))),((),(out,())))=some ((out++eu (d.2.drop i),()),()):=by
  intro n
  induction n with
  |zero =>
   intro i out hi ho
   refine ar (j:=0) (by kernel_rfl) ((KO _ _ _).trans ?_)
   refine af (decide_eq_false (show ¬((i:Int)<((d.2.length:Nat):Int)) by omega)) ?_
   rw[List.drop_eq_nil_of_le (by omega)]
   show some ((out,()),())=some ((out++[],()),())
   rw[List.append_nil]
  |succ n ih =>
   intro i out hi ho
   have aF:i<d.2.length:=by omega
   refine ar (j:=0) (by kernel_rfl) ((KO _ _ _).trans ?_)
   refine ae (aW aF) (aa (aI (List.getElem?_eq_getElem aF)) ?_)
   refine aa (HK (hG _ _ rfl) (d.2[i].1,0) (.inl rfl)) ?_
   refine ae (fits (by show out.length+2≤_;omega)) ?_
   have:=ih (i+1) (out++[(d.2[i].1,0),(d.2[i].1,1)]) (by omega) (by simp[ho];omega)
   rw[List.drop_eq_getElem_cons aF]
   rw[←aG aF (by omega),List.append_assoc]at this
   exact this
 exact loop d.2.length 0 [] (by omega) rfl
theorem Rg(hG:HG G)(l:List ag)(hl:l.length≤50000000):FX G 240238 kg ((l,()),())=some ((((al l:Nat):Int),()),()):=by
 refine au (fn:=Tryz.f238) (hG _ _ rfl) (by kernel_rfl) (by kernel_rfl) ((P5 _ _ _).trans ?_)
 have loop:∀(n i m:Nat),i+n=l.length→m≤i→LX G 240238 kg Tryz.f238 jJ (aN Tryz.prog 238 0) (((m:Int),(l,(((l.length:Nat):Int),((i:Int),())))),((),()))=some ((((m+al (l.drop i):Nat):Int),()),()):=by
  intro n
  induction n with
  |zero =>
   intro i m hi hm
   refine ar (j:=0) (by kernel_rfl) ((A7 _ _ _).trans ?_)
   refine af (decide_eq_false (show ¬((i:Int)<((l.length:Nat):Int)) by omega)) ?_
   rw[List.drop_eq_nil_of_le (by omega)];rfl
  |succ n ih =>
   intro i m hi hm
   have aF:i<l.length:=by omega
   have agB:FX G 239 GY ((l[i],()),())=some ((l[i].2.1.isEmpty,()),()):=by
    refine au (fn:=Tryz.f239) (hG _ _ rfl) (by kernel_rfl) (by kernel_rfl) ((Zy _ _ _).trans ?_)
    have:(((l[i].2.1.length:Nat):Int)==0)=l[i].2.1.isEmpty:=by cases l[i].2.1<;>simp;omega
    exact congrArg (fun b:Bool=>some ((b,()),())) this
   refine ar (j:=0) (by kernel_rfl) ((A7 _ _ _).trans ?_)
   refine ae (aW aF) (aa (aI (List.getElem?_eq_getElem aF)) ?_)
   refine aa agB ?_
   rw[List.drop_eq_getElem_cons aF]
   unfold al
   rw[List.countP_cons]
   cases hb:l[i].2.1.isEmpty
   ·refine af rfl ?_
    have:=ih (i+1) m (by omega) (by omega)
    rw[←aG aF (by omega)]at this
    exact this
   ·refine ae rfl ?_
    have:=ih (i+1) (m+1) (by omega) (by omega)
    rw[←aG aF (by omega),←aG (i:=m) (n:=l.length) (by omega) (by omega)]at this
    refine this.trans ?_
    refine congrArg (fun q:Nat=>some ((((q:Nat):Int),()),())) ?_
    unfold al
    simp;omega
 have:=loop l.length 0 0 (by omega) (by omega)
 rw[List.drop_zero,Nat.zero_add]at this
 exact this
end Go.Vs
namespace Go.Vs
open Go.Proofs
variable {G:(f:FuncId)→(g:aJ)→Option (g.A→Option g.B)}
def Fo(g:List Nat):Prop:=∀(i x:Nat),g[i]? = some x→x≤i
def root(g:List Nat)(i:Nat):Nat :=
 match g[i]? with
 |some x=>if h:x<i then root g x else i
 |none=>i
termination_by i
theorem dz{g:List Nat}{i x:Nat}(h:g[i]? = some x):root g i=if x<i then root g x else i:=by
 rw[root,h];simp
theorem lk{g:List Nat}{i:Nat}(h:g[i]? = none):root g i=i:=by rw[root,h]
theorem Lk(g:List Nat):∀i,root g i≤i:=by
 intro i
 induction i using Nat.strongRecOn with
 |_ i ih =>
  cases h:g[i]? with
  |none=>rw[lk h];exact Nat.le_refl _
  |some x =>
   rw[dz h]
   split
   ·rename_i hx;have:=ih x hx;omega
   ·exact Nat.le_refl _
theorem H5{g:List Nat}(hf:Fo g):∀i,i<g.length→g[root g i]? = some (root g i):=by
 intro i
 induction i using Nat.strongRecOn with
 |_ i ih =>
  intro hi
  have h:=List.getElem?_eq_getElem hi
  rw[dz h]
  split
  ·rename_i hx;exact ih _ hx (by omega)
  ·have:=hf i _ h
   rw[h];congr 1;omega
theorem ll{g:List Nat}{i:Nat}(h:g[i]? = some i):root g i=i:=by rw[dz h,if_neg (by omega)]
theorem Fo.set{g:List Nat}(hf:Fo g){i y:Nat}(h:y≤i):Fo (g.set i y):=fun j x hj=>by
 rw[List.getElem?_set]at hj
 split at hj
 ·rename_i e;subst e
  split at hj
  ·cases hj;exact h
  ·cases hj
 ·exact hf j x hj
theorem J6{g:List Nat}(hf:Fo g){i x y:Nat}(hi:g[i]? = some x)(hx:g[x]? = some y)(aF:x<i):∀j,root (g.set i y) j=root g j:=by
 have hyx:=hf x y hx
 have n8:=(List.getElem?_eq_some_iff.1 hi).1
 intro j
 induction j using Nat.strongRecOn with
 |_ j ih =>
  by_cases e:j=i
  ·subst e
   have h1:(g.set j y)[j]? = some y:=by rw[List.getElem?_set];simp[n8]
   rw[dz h1,if_pos (by omega),ih y (by omega),dz hi,if_pos aF,dz hx]
   split
   ·rfl
   ·have:y=x:=by omega
    subst this;exact ll hx
  ·have h1:(g.set i y)[j]? = g[j]? := by rw[List.getElem?_set,if_neg (fun k=>e k.symm)]
   cases h:g[j]? with
   |none=>rw[lk h,lk (h1.trans h)]
   |some z =>
    rw[dz h,dz (h1.trans h)]
    split
    ·rename_i hz;exact ih z hz
    ·rfl
theorem Nh{g:List Nat}{a b:Nat}(ha:g[a]? = some a)(hb:g[b]? = some b):∀j,root (g.set (max a b) (min a b)) j=if root g j=max a b then min a b else root g j:=by
 have hm:g[max a b]? = some (max a b):=by rcases Nat.le_total a b with h|h<;>simp[Nat.max_eq_right,Nat.max_eq_left,h,ha,hb]
 have hn:g[min a b]? = some (min a b):=by rcases Nat.le_total a b with h|h<;>simp[Nat.min_eq_right,Nat.min_eq_left,h,ha,hb]
 have hml:=(List.getElem?_eq_some_iff.1 hm).1
 have hle:min a b≤max a b:=by omega
 generalize max a b=M at *
 generalize min a b=m at *
 have aF:∀j,(g.set M m)[j]? = if j=M then some m else g[j]? := fun j=>by
  rw[List.getElem?_set]
  by_cases e:M=j
  ·subst e;simp[hml]
  ·rw[if_neg e,if_neg (fun k=>e k.symm)]
 intro j
 induction j using Nat.strongRecOn with
 |_ j ih =>
  by_cases ej:j=M
  ·subst ej
   have h1:(g.set j m)[j]? = some m:=by rw[aF,if_pos rfl]
   rw[dz h1,ll hm,if_pos rfl]
   by_cases e:m<j
   ·rw[if_pos e,ih m e,ll hn,if_neg (by omega)]
   ·rw[if_neg e];omega
  ·have h1:(g.set M m)[j]? = g[j]? := by rw[aF,if_neg ej]
   cases h:g[j]? with
   |none=>rw[lk h,lk (h1.trans h),if_neg ej]
   |some z =>
    rw[dz h,dz (h1.trans h)]
    by_cases hz:z<j
    ·rw[if_pos hz,if_pos hz];exact ih z hz
    ·rw[if_neg hz,if_neg hz,if_neg ej]
def fI(g:List Nat):List Int:=g.map fun n=>((n:Nat):Int)
theorem BL(g:List Nat):(fI g).length=g.length:=by simp[fI]
theorem tG{g:List Nat}{i x:Nat}(h:g[i]? = some x):(fI g)[Int.toNat (i:Int)]? = some (x:Int):=by simp[fI,h]
theorem Rh(g:List Nat)(i x:Nat):(fI g).set (Int.toNat (i:Int)) (x:Int)=fI (g.set i x):=by simp[fI,List.map_set]
theorem BM{g:List Nat}{i:Nat}(h:i<g.length):(decide ((0:Int)≤(i:Int))&&decide ((i:Int)<(((fI g).length:Nat):Int)))=true:=by
 rw[BL];exact dq (eT i) (aW h)
structure DT(g g':List Nat):Prop where
 f:Fo g'
 n:g'.length=g.length
 r:∀j,root g' j=root g j
theorem DT.trans{a b c:List Nat}(h:DT a b)(k:DT b c):DT a c:=⟨k.f,k.n.trans h.n,fun j=>(k.r j).trans (h.r j)⟩
theorem Ri(hG:HG G)(g:List Nat)(i:Nat)(hf:Fo g)(hi:i<g.length):∃g',DT g g'∧FX G 260 qx (((i:Int),()),(fI g,()))=some ((((root g i:Nat):Int),()),(fI g',())):=by
 have loop:∀(i:Nat) (g:List Nat),Fo g→i<g.length→∃g',DT g g'∧LX G 260 qx Tryz.f260 ru (aN Tryz.prog 260 0) (((i:Int),()),((),(fI g,())))=some ((((root g i:Nat):Int),()),(fI g',())):=by
  intro i
  induction i using Nat.strongRecOn with
  |_ i ih =>
   intro g hf hi
   have h:=List.getElem?_eq_getElem hi
   generalize g[i]=x at h
   have hxi:=hf i x h
   by_cases hx:x<i
   ·have h2:=List.getElem?_eq_getElem (show x<g.length by omega)
    generalize g[x]=y at h2
    have hyx:=hf x y h2
    have hs:=J6 hf h h2 hx
    have hf2:Fo (g.set i y):=hf.set (by omega)
    obtain⟨g',h3,h4⟩:=ih y (by omega) (g.set i y) hf2 (by rw[List.length_set];omega)
    refine⟨g',⟨h3.f,by rw[h3.n,List.length_set],fun j=>(h3.r j).trans (hs j)⟩,?_⟩
    refine ar (j:=0) (by kernel_rfl) ((KU _ _ _).trans ?_)
    refine ae (BM hi) (aa (tG h) ?_)
    refine ae (show(((x:Nat):Int) != (i:Int))=true by rw[bne_iff_ne];omega) ?_
    refine ae (BM hi) (aa (tG h) ?_)
    refine ae (BM (show x<g.length by omega)) (aa (tG h2) ?_)
    refine ae (BM hi) (aa (tG h) ?_)
    have agC:=Rh g i y
    have key:∀f:List Int,f=fI (g.set i y)→cond ((decide ((0:Int)≤(i:Int)))&&(decide ((i:Int)<(((List.length f):Nat):Int)))) (((f)[(Int.toNat (i:Int))]?).bind fun(y5:Int)=>LX G 260 qx Tryz.f260 ru (aN Tryz.prog 260 0) ((y5,()),((),(f,())))) none=some ((((root g i:Nat):Int),()),(fI g',())):=fun f hf=>by
     subst hf
     refine ae (BM (by rw[List.length_set];exact hi)) (aa (tG (x:=y) (by rw[List.getElem?_set];simp[hi])) ?_)
     rw[h4,hs y,dz h,if_pos hx,dz h2]
     by_cases hy:y<x
     ·rw[if_pos hy]
     ·have:y=x:=by omega
      subst this;rw[if_neg (by omega),ll h2]
    exact key _ agC
   ·have:x=i:=by omega
    subst this
    refine⟨g,⟨hf,rfl,fun _=>rfl⟩,?_⟩
    refine ar (j:=0) (by kernel_rfl) ((KU _ _ _).trans ?_)
    refine ae (BM hi) (aa (tG h) ?_)
    rw[ll h]
    exact af (by simp) rfl
 obtain⟨g',h1,h2⟩:=loop i g hf hi
 exact⟨g',h1,au (fn:=Tryz.f260) (hG _ _ rfl) (by kernel_rfl) (by kernel_rfl) ((ZE _ _ _).trans h2)⟩
def BN(a b r:Nat):Nat:=if r=max a b then min a b else r
theorem abj(hG:HG G)(g:List Nat)(i k:Nat)(hf:Fo g)(hi:i<g.length)(hk:k<g.length):∃g',Fo g'∧g'.length=g.length∧(∀j,root g' j=BN (root g i) (root g k) (root g j))∧FX G 259 GZ (((i:Int),((k:Int),())),(fI g,()))=some ((),(fI g',())):=by
 obtain⟨g1,h1,e1⟩:=Ri hG g i hf hi
 obtain⟨g2,h2,e2⟩:=Ri hG g1 k h1.f (by rw[h1.n];exact hk)
 rw[h1.r k]at e2
 have hs:=h1.trans h2
 have ra:g2[root g i]? = some (root g i):=by
  have:=H5 hs.f i (by rw[hs.n];exact hi)
  rw[hs.r i]at this;exact this
 have rb:g2[root g k]? = some (root g k):=by
  have:=H5 hs.f k (by rw[hs.n];exact hk)
  rw[hs.r k]at this;exact this
 have hal:=(List.getElem?_eq_some_iff.1 ra).1
 have hbl:=(List.getElem?_eq_some_iff.1 rb).1
 have hm:max (root g i) (root g k)<g2.length:=by omega
 refine⟨g2.set (max (root g i) (root g k)) (min (root g i) (root g k)),hs.f.set (by omega),by rw[List.length_set,hs.n],fun j=>by rw[Nh ra rb j,hs.r j];rfl,?_⟩
 refine au (fn:=Tryz.f259) (hG _ _ rfl) (by kernel_rfl) (by kernel_rfl) ((ZD _ _ _).trans ?_)
 refine aa e1 (aa e2 ?_)
 have em:(max ((root g i:Nat):Int) ((root g k:Nat):Int):Int)=((max (root g i) (root g k):Nat):Int):=by omega
 have en:(min ((root g i:Nat):Int) ((root g k:Nat):Int):Int)=((min (root g i) (root g k):Nat):Int):=by omega
 have key:∀m n:Int,m=((max (root g i) (root g k):Nat):Int)→n=((min (root g i) (root g k):Nat):Int)→cond ((decide ((0:Int)≤m))&&(decide (m<(((List.length (fI g2)):Nat):Int)))) (((fI g2)[(Int.toNat m)]?).bind fun(y3:Int)=>(some ((),((List.set (fI g2) (Int.toNat m) n),())):Option (Unit×((List Int)×Unit)))) none=some ((),(fI (g2.set (max (root g i) (root g k)) (min (root g i) (root g k))),())):=fun m n SB IN=>by
  subst SB IN
  refine ae (BM hm) (aa (tG (List.getElem?_eq_getElem hm)) ?_)
  rw[Rh]
 exact key _ _ em en
end Go.Vs
namespace Go.Vs
open Go.Proofs
variable {G:(f:FuncId)→(g:aJ)→Option (g.A→Option g.B)}
theorem J7{α:Type}(x:ab)(es:List (ab×α)):sQ bm x es=es.findIdx? fun e=>decide (e.1=x):=by
 show List.findIdx? (fun e:ab×α=>((x.1.1==e.1.1.1)&&(x.1.2==e.1.1.2))&&(x.2==e.1.2)) es=_
 congr 1
 funext e
 rw[kD x e.1]
 by_cases h:x=e.1
 ·rw[decide_eq_true h,decide_eq_true h.symm]
 ·rw[decide_eq_false h,decide_eq_false (fun k=>h k.symm)]
def fm{β α:Type}[DecidableEq β](x:β):List (β×α)→Option α
 |[]=>none
 |e::r=>if e.1=x then some e.2 else fm x r
theorem J8{β α:Type}[DecidableEq β](x:β):∀es:List (β×α),((es.findIdx? fun e=>decide (e.1=x)).bind fun i=>(es[i]?).map (·.2))=fm x es
 |[]=>rfl
 |e::r=>by
  have ih:=J8 x r
  rw[List.findIdx?_cons,fm]
  by_cases h:e.1=x
  ·rw[if_pos (decide_eq_true h),if_pos h];rfl
  ·rw[if_neg (by simpa using h),if_neg h,←ih]
   cases r.findIdx? fun e=>decide (e.1=x)<;>simp
theorem Rj{α:Type}(x:ab)(es:List (ab×α)):iL bm x es=fm x es:=by
 have:=J8 x es
 rw[←J7]at this
 exact this
theorem Rk{α:Type}{x:ab}(v:α){es:List (ab×α)}(h:x∉es.map (·.1)):mb bm x v es=es++[(x,v)]:=by
 have e:sQ bm x es=none:=by
  rw[J7,List.findIdx?_eq_none_iff]
  intro q hq
  exact decide_eq_false fun k=>h (List.mem_map.2 ⟨q,hq,k⟩)
 unfold mb
 split
 ·rename_i i k;rw[e]at k;cases k
 ·rfl
theorem H6{β α:Type}[DecidableEq β]{x:β}{v:α}:∀{es:List (β×α)},(es.map (·.1)).Nodup→(x,v)∈es→fm x es=some v
 |[],_,h=>by cases h
 |e::r,hn,h=>by
  simp only[List.map_cons,List.nodup_cons]at hn
  rw[fm]
  rcases List.mem_cons.1 h with e1|h
  ·subst e1;rw[if_pos rfl]
  ·rw[if_neg (fun k=>hn.1 (by rw[k];exact List.mem_map.2 ⟨_,h,rfl⟩))]
   exact H6 hn.2 h
def gT:List ag→Nat→List (ab×Int)
 |[],_=>[]
 |v::r,i=>v.2.1.map (fun x=>(x,(i:Int)))++gT r (i+1)
theorem wL:∀(l:List ag) (i:Nat),(gT l i).map (·.1)=aq l
 |[],_=>rfl
 |v::r,i=>by
  have e:(v.2.1.map fun x=>(x,(i:Int))).map (·.1)=v.2.1:=by rw[List.map_map];exact List.map_id _
  rw[gT,jM,List.map_append,wL r,e]
theorem H7:∀(a b:List ag) (i:Nat),gT (a++b) i=gT a i++gT b (i+a.length)
 |[],b,i=>rfl
 |v::r,b,i=>by
  rw[List.cons_append,gT,gT,H7 r b,List.append_assoc]
  congr 3
  simp;omega
theorem H8{x:ab}{a:Int}:∀{l:List ag} {i:Nat},(x,a)∈gT l i→∃k v,l[k]? = some v∧a=((i+k:Nat):Int)∧x∈v.2.1
 |[],i,h=>by cases h
 |v::r,i,h=>by
  rw[gT]at h
  rcases List.mem_append.1 h with h|h
  ·obtain⟨y,hy,e⟩:=List.mem_map.1 h
   cases e
   exact⟨0,v,rfl,rfl,hy⟩
  ·obtain⟨k,u,h1,h2,h3⟩:=H8 h
   exact⟨k+1,u,by simpa using h1,by rw[h2];congr 1;omega,h3⟩
theorem Ll{x:ab}:∀{l:List ag} {i k:Nat} {v:ag},l[k]? = some v→x∈v.2.1→(x,((i+k:Nat):Int))∈gT l i
 |v::r,i,0,u,h,hx=>by
  simp at h;subst h
  rw[gT];exact List.mem_append_left _ (List.mem_map.2 ⟨x,hx,rfl⟩)
 |v::r,i,k+1,u,h,hx=>by
  rw[gT]
  refine List.mem_append_right _ ?_
  have:=Ll (i:=i+1) (k:=k) (by simpa using h) hx
  rwa [show i+1+k=i+(k+1) by omega]at this
theorem Rl(i:Nat):fI (List.range i)++[(i:Int)]=fI (List.range (i+1)):=by rw[List.range_succ];simp[fI]
section
variable {d:aj} {y:gQ.B}
theorem TJ(h:Wf d){i:Nat}(hi:i<d.1.length){f:List Int}{nn:Int}
  (next:LX G 256 gQ Tryz.f256 rr (aN Tryz.prog 256 0) ((d.1,(nn,((IntKind.wrap .i64 ((i:Int)+1)),()))),((),(f,(gT (d.1.take (i+1)) 0,()))))=some y):∀(n j:Nat) (es:List (ab×Int)),j+n=d.1[i].2.1.length→es=gT (d.1.take i) 0++(d.1[i].2.1.take j).map (fun x=>(x,(i:Int))) →
  LX G 256 gQ Tryz.f256 uQ (aN Tryz.prog 256 1) (((i:Int),(d.1,(nn,((i:Int),(d.1[i].2.1,(((d.1[i].2.1.length:Nat):Int),((j:Int),()))))))),((),(f,(es,()))))=some y:=by
 have hr:=h.tD d.1[i] (List.getElem_mem hi)
 have et:d.1.take (i+1)=d.1.take i++[d.1[i]]:=(List.take_append_getElem hi).symm
 have ev:gT (d.1.take (i+1)) 0=gT (d.1.take i) 0++d.1[i].2.1.map (fun x=>(x,(i:Int))):=by
  rw[et,H7]
  have:(d.1.take i).length=i:=by rw[List.length_take];omega
  rw[this,Nat.zero_add]
  congr 1
  show d.1[i].2.1.map (fun x=>(x,(i:Int)))++[]=_
  rw[List.append_nil]
 have nd:(aq (d.1.take i)++d.1[i].2.1).Nodup:=by
  have h1:=h.rw.n
  rw[←List.take_append_drop (i+1) d.1,et,nS,nS]at h1
  have e2:aq [d.1[i]]=d.1[i].2.1:=by rw[jM];exact List.append_nil _
  rw[e2]at h1
  exact(List.nodup_append.1 h1).1
 intro n
 induction n with
 |zero =>
  intro j es hj he
  refine ar (j:=1) (by kernel_rfl) ((KQ _ _ _).trans ?_)
  refine af (decide_eq_false (show ¬((j:Int)<((d.1[i].2.1.length:Nat):Int)) by omega)) ?_
  have e:d.1[i].2.1.take j=d.1[i].2.1:=List.take_of_length_le (by omega)
  rw[e,←ev]at he
  subst he
  exact next
 |succ n ih =>
  intro j es hj he
  have aF:j<d.1[i].2.1.length:=by omega
  refine ar (j:=1) (by kernel_rfl) ((KQ _ _ _).trans ?_)
  refine ae (aW aF) (aa (aI (List.getElem?_eq_getElem aF)) ?_)
  have Ce:d.1[i].2.1[j]∉es.map (·.1):=by
   have e3:((d.1[i].2.1.take j).map fun x=>(x,(i:Int))).map (·.1)=d.1[i].2.1.take j:=by rw[List.map_map];exact List.map_id _
   rw[he,List.map_append,wL,e3,List.mem_append]
   rintro(k|k)
   ·exact(List.nodup_append.1 nd).2.2 _ k _ (List.getElem_mem aF) rfl
   ·obtain⟨q,hq,he⟩:=List.getElem_of_mem k
    have hq1:q<j:=by rw[List.length_take]at hq;omega
    rw[List.getElem_take]at he
    have:=(List.getElem_inj (List.nodup_append.1 nd).2.1).1 he
    omega
  have:=ih (j+1) (mb bm d.1[i].2.1[j] (i:Int) es) (by omega) (by
   rw[Rk _ Ce,he,←List.take_append_getElem aF,List.map_append,List.append_assoc];rfl)
  rw[←aG aF (by omega)]at this
  exact this
theorem TK(h:Wf d)
  (next:LX G 256 gQ Tryz.f256 oQ (aN Tryz.prog 256 2) ((gT d.1 0,()),((),(fI (List.range d.1.length),((none,gT d.1 0),()))))=some y):∀(n i:Nat),i+n=d.1.length →
  LX G 256 gQ Tryz.f256 rr (aN Tryz.prog 256 0) ((d.1,(((d.1.length:Nat):Int),((i:Int),()))),((),(fI (List.range i),(gT (d.1.take i) 0,()))))=some y:=by
 have hn:=h.nv
 intro n
 induction n with
 |zero =>
  intro i hi
  have e:i=d.1.length:=by omega
  subst e
  refine ar (j:=0) (by kernel_rfl) ((KP _ _ _).trans ?_)
  refine af (decide_eq_false (show ¬(((d.1.length:Nat):Int)<((d.1.length:Nat):Int)) by omega)) ?_
  rw[List.take_length]
  exact next
 |succ n ih =>
  intro i hi
  have aF:i<d.1.length:=by omega
  refine ar (j:=0) (by kernel_rfl) ((KP _ _ _).trans ?_)
  refine ae (aW aF) (aa (aI (List.getElem?_eq_getElem aF)) ?_)
  refine ae (fits (by show(fI (List.range i)).length+1≤_;rw[BL];simp;omega)) ?_
  have nx:=ih (i+1) (by omega)
  rw[←aG aF (by omega),←Rl]at nx
  exact TJ (G:=G) h aF nx d.1[i].2.1.length 0 _ (by omega) (by simp)
end
end Go.Vs
namespace Go.Vs
open Go.Proofs
variable {G:(f:FuncId)→(g:aJ)→Option (g.A→Option g.B)}
theorem BO(a b:Nat):BN a b a=min a b∧BN a b b=min a b:=by
 unfold BN
 constructor<;>split<;>omega
structure FoI(d:aj)(rem:List (ab×Int))(g:List Nat):Prop where
 f:Fo g
 n:g.length=d.1.length
 c:∀i,i<d.1.length→cJ d (cC d i) (cC d (root g i))
 p:∀(z:ab) (i k:Nat),(z,(i:Int))∈gT d.1 0→(ao z,(k:Int))∈gT d.1 0→(z,(i:Int))∉rem→root g i=root g k
theorem vn{d:aj}(h:Wf d){z:ab}{a:Int}(hm:(z,a)∈gT d.1 0):∃i:Nat,i<d.1.length∧a=(i:Int)∧z∈aq d.1∧cm d z=some (cC d i):=by
 obtain⟨k,v,h1,h2,h3⟩:=H8 hm
 rw[Nat.zero_add]at h2
 have hv:=List.mem_of_getElem? h1
 refine⟨k,(List.getElem?_eq_some_iff.1 h1).1,h2,br.2 ⟨v,hv,h3⟩,?_⟩
 rw[mE h1]
 exact ji h.rw hv h3
theorem J9{d:aj}(h:Wf d){z:ab}(hz:z∈aq d.1):∃i:Nat,(z,(i:Int))∈gT d.1 0:=by
 obtain⟨v,hv,hx⟩:=br.1 hz
 obtain⟨k,hk⟩:=List.getElem?_of_mem hv
 have:=Ll (i:=0) hk hx
 rw[Nat.zero_add]at this
 exact⟨k,this⟩
theorem Lm{d:aj}(h:Wf d){z:ab}{a:Int}(hm:(z,a)∈gT d.1 0):iL bm z (gT d.1 0)=some a:=by
 rw[Rj]
 refine H6 ?_ hm
 rw[wL];exact h.rw.n
theorem FoI.same{d:aj}(h:Wf d){g:List Nat}(hg:FoI d [] g){a b:ID}(k:cJ d a b):∀i j,i<d.1.length→j<d.1.length→cC d i=a→cC d j=b→root g i=root g j:=by
 induction k with
 |refl=>intro i j hi hj h1 h2;rw[jk h.sv hi hj (h1.trans h2.symm)]
 |tail _ s ih =>
  intro i j hi hj h1 h2
  obtain⟨z,hz,s1,s2⟩:=s
  obtain⟨m,hm⟩:=J9 h hz
  obtain⟨q,hq⟩:=J9 h (h.other hz)
  obtain⟨m',m1,m2,_,m3⟩:=vn h hm
  obtain⟨q',q1,q2,_,q3⟩:=vn h hq
  have em:m'=m:=by omega
  have eq:q'=q:=by omega
  subst em;subst eq
  rw[s1]at m3;rw[s2]at q3
  have r1:=ih i m' hi m1 h1 (Option.some.inj m3).symm
  have r2:=hg.p z m' q' hm hq (by simp)
  have ej:q'=j:=jk h.sv q1 hj ((Option.some.inj q3).symm.trans h2.symm)
  rw[r1,r2,ej]
theorem FoI.can{d:aj}(h:Wf d){g:List Nat}(hg:FoI d [] g):HX d (fI ((List.range d.1.length).map (root g))):=by
 have mP:∀i,i<d.1.length→(fI ((List.range d.1.length).map (root g))).getD i 0=((root g i:Nat):Int):=fun i hi=>by
  unfold fI;simp[List.getD,hi]
 refine⟨⟨by rw[BL];simp,fun i hi=>⟨root g i,Lk g i,mP i hi,hg.c i hi⟩⟩,fun i hi j hj k=>?_⟩
 rw[mP i hi,hg.same h k i j hi hj rfl rfl]
 have:=Lk g j
 omega
theorem TL(hG:HG G){d:aj}(h:Wf d){g:List Nat}:∀(n i:Nat) (g':List Nat),i+n=d.1.length→Fo g'→g'.length=d.1.length→(∀j,root g' j=root g j) →
  LX G 256 gQ Tryz.f256 uR (aN Tryz.prog 256 3) ((((d.1.length:Nat):Int),((i:Int),())),((),(fI g',(fI ((List.range i).map (root g)),()))))=some ((fI ((List.range d.1.length).map (root g)),()),()):=by
 have So:=h.nv
 intro n
 induction n with
 |zero =>
  intro i g' hi h1 h2 h3
  have e:i=d.1.length:=by omega
  subst e
  refine ar (j:=3) (by kernel_rfl) ((KS _ _ _).trans ?_)
  exact af (decide_eq_false (show ¬(((d.1.length:Nat):Int)<((d.1.length:Nat):Int)) by omega)) rfl
 |succ n ih =>
  intro i g' hi h1 h2 h3
  have aF:i<d.1.length:=by omega
  obtain⟨g2,s,e⟩:=Ri hG g' i h1 (by omega)
  refine ar (j:=3) (by kernel_rfl) ((KS _ _ _).trans ?_)
  refine ae (aW aF) (aa e ?_)
  refine ae (fits (by show(fI _).length+1≤_;rw[BL];simp;omega)) ?_
  have:=ih (i+1) g2 (by omega) s.f (by rw[s.n,h2]) (fun j=>(s.r j).trans (h3 j))
  have e2:fI ((List.range (i+1)).map (root g))=fI ((List.range i).map (root g))++[((root g' i:Nat):Int)]:=by
   rw[List.range_succ,h3 i];simp[fI]
  rw[e2,←aG aF (by omega)]at this
  exact this
theorem TM(hG:HG G){d:aj}(h:Wf d):∀(n:Nat) (rem:List (ab×Int)) (g:List Nat) (o:Option (ab×Int)),rem.length=n→(∀e∈rem,e∈gT d.1 0)→FoI d rem g →
  LX G 256 gQ Tryz.f256 oQ (aN Tryz.prog 256 2) ((gT d.1 0,()),((),(fI g,((o,rem),()))))=some ((labels d,()),()):=by
 intro n
 induction n with
 |zero =>
  intro rem g o hn hr hg
  have e:rem=[]:=List.eq_nil_of_length_eq_zero hn
  subst e
  refine ar (j:=2) (by kernel_rfl) ((KR _ _ _).trans ?_)
  refine ae rfl ?_
  have:=TL (G:=G) hG h (g:=g) d.1.length 0 g (by omega) hg.f hg.n (fun _=>rfl)
  rw[(hg.can h).uniq h (fe h)]at this
  have e2:((fI g).length:Int)=((d.1.length:Nat):Int):=by rw[BL,hg.n]
  rw[←e2]at this
  exact this
 |succ n ih =>
  intro rem g o hn hr hg
  refine ar (j:=2) (by kernel_rfl) ((KR _ _ _).trans ?_)
  refine af (show rem.isEmpty=false by cases rem with|nil=>simp at hn|cons _ _=>rfl) ?_
  refine kR (show 0<rem.length by omega) fun j hj=>?_
  have hj':j<rem.length:=hj
  refine aa (List.getElem?_eq_getElem hj') ?_
  have hm:=hr _ (List.getElem_mem hj')
  generalize he:rem[j]=e at hm
  obtain⟨z,a⟩:=e
  obtain⟨i,hi,ha,hz,haz⟩:=vn h hm
  subst ha
  obtain⟨k,hk⟩:=J9 h (h.other hz)
  obtain⟨k',vv,ek,_,hak⟩:=vn h hk
  have ek':k'=k:=by omega
  subst ek'
  refine aa (HK (hG _ _ rfl) z (h.side hz)) ?_
  have mP:iL bm (ao z) (gT d.1 0)=some (k':Int):=Lm h hk
  refine ae (show(iL bm (ao z) (gT d.1 0)).isSome=true by rw[mP];rfl) ?_
  obtain⟨g',h1,h2,h3,h4⟩:=abj hG g i k' hg.f (by rw[hg.n];exact hi) (by rw[hg.n];exact vv)
  refine aa (a:=((),(fI g',()))) (by
   have:(iL bm (ao z) (gT d.1 0)).getD (0:Int)=(k':Int):=by rw[mP];rfl
   rw[←this]at h4
   exact h4) ?_
  have agE:HV d (cC d i) (cC d k'):=⟨z,hz,haz,hak⟩
  have cij:cJ d (cC d (root g i)) (cC d (root g k')):=((hg.c i hi).symm h).trans (agE.conn.trans (hg.c k' vv))
  refine ih (rem.eraseIdx j) g' _ (by rw[List.length_eraseIdx,if_pos hj'];omega) (fun e he=>hr e (List.mem_of_mem_eraseIdx he)) ⟨h1,h2.trans hg.n,fun q hq=>?_,fun y p q hp hq hy=>?_⟩
  ·rw[h3 q]
   unfold BN
   split
   ·rename_i e
    refine(hg.c q hq).trans ?_
    rw[e]
    rcases Nat.le_total (root g i) (root g k') with hle|hle
    ·rw[Nat.max_eq_right hle,Nat.min_eq_left hle];exact cij.symm h
    ·rw[Nat.max_eq_left hle,Nat.min_eq_right hle];exact cij
   ·exact hg.c q hq
  ·rw[h3 p,h3 q]
   by_cases l9:(y,(p:Int))∈rem
   ·
    have e:(y,(p:Int))=(z,(i:Int)):=by
     apply Classical.byContradiction
     intro ne
     apply hy
     rw[List.mem_eraseIdx_iff_getElem]
     obtain⟨t,ht,hte⟩:=List.getElem_of_mem l9
     refine⟨t,ht,fun k=>?_,hte⟩
     subst k
     exact ne (hte.symm.trans he)
    have e1:y=z:=congrArg Prod.fst e
    have e2:p=i:=by have:=congrArg Prod.snd e;simp at this;omega
    subst e1;subst e2
    have h5:=Lm h hq
    rw[mP]at h5
    have e3:q=k':=by have:=Option.some.inj h5;omega
    subst e3
    rw[(BO _ _).1,(BO _ _).2]
   ·rw[hg.p y p q hp hq l9]
theorem Ka(n:Nat):∀i,root (List.range n) i=i:=fun i=>by
 cases h:(List.range n)[i]? with
 |none=>exact lk h
 |some x =>
  have:x=i:=by rw[List.getElem?_range (by have:=(List.getElem?_eq_some_iff.1 h).1;simpa using this)]at h;exact(Option.some.inj h).symm
  subst this
  exact ll h
theorem abl(hG:HG G)(d:aj)(h:Wf d):FX G 256 gQ ((d,()),())=some ((labels d,()),()):=by
 refine au (fn:=Tryz.f256) (hG _ _ rfl) (by kernel_rfl) (by kernel_rfl) ((ZB _ _ _).trans ?_)
 refine TK (G:=G) h ?_ d.1.length 0 (by omega)
 refine TM hG h _ (gT d.1 0) (List.range d.1.length) none rfl (fun _ k=>k) ⟨fun i x hx=>?_,by simp,fun i hi=>?_,fun z i k h1 h2 h3=>absurd h1 h3⟩
 ·have:=(List.getElem?_eq_some_iff.1 hx).1
  rw[List.getElem?_range (by simpa using this)]at hx
  have:=Option.some.inj hx;omega
 ·rw[Ka];exact .refl _
end Go.Vs
namespace Go.Vs
open Go.Proofs
variable {G:(f:FuncId)→(g:aJ)→Option (g.A→Option g.B)}
structure PG(G:(f:FuncId)→(g:aJ)→Option (g.A→Option g.B)):Prop where
 h:HG G
 f:∀d,Wf d→FX G 240 xx ((d,()),())=some ((cO d,()),())
 c:∀d,Wf d→FX G 241 xy ((d,()),())=some ((eI d,()),())
theorem abm(hp:PG G)(d:aj)(h:Wf d):FX G 226 GW ((d,()),())=some ((((d.1.length:Nat):Int),(((d.2.length:Nat):Int),(((ft d:Nat):Int),(eI d,())))),()):=by
 have hn:=h.nv
 have hf:=vm h
 have ha:al d.1≤d.1.length:=List.countP_le_length
 refine au (fn:=Tryz.f226) (hp.h _ _ rfl) (by kernel_rfl) (by kernel_rfl) ((Zu _ _ _).trans ?_)
 refine aa (Rg hp.h d.1 (by omega)) ?_
 refine aa (hp.f d h) (aa (hp.c d h) ?_)
 have e:IntKind.wrap .i64 ((((cO d).length:Nat):Int)+((al d.1:Nat):Int))=((ft d:Nat):Int):=by
  rw[wrap_small (by omega) (by omega)];rfl
 exact congrArg (fun n:Int=>some ((((d.1.length:Nat):Int),(((d.2.length:Nat):Int),(n,(eI d,())))),())) e
theorem abn(hp:PG G)(d:aj)(h:Wf d):FX G 204 GQ ((d,()),())=some ((jg d,()),()):=by
 have hn:=h.nv;have bq:=h.ne
 have hf:=vm h
 have ha:al d.1≤d.1.length:=List.countP_le_length
 refine au (fn:=Tryz.f204) (hp.h _ _ rfl) (by kernel_rfl) (by kernel_rfl) ((Zj _ _ _).trans ?_)
 refine aa (abm hp d h) (af rfl ?_)
 have hr:=mF h (fe h)
 obtain⟨k,e1,e2⟩:=Rc h hr
 have ec:=rM h
 have OT:(kF d (labels d)).length≤d.1.length:=by
  unfold kF
  rw[List.length_map]
  refine Nat.le_trans (List.length_filter_le _ _) ?_
  simp
 have YF:ft d≤80+d.1.length:=by unfold ft;omega
 refine congrArg (fun n:Int=>some ((n,()),())) ?_
 show IntKind.wrap .i64 (eI d-IntKind.wrap .i64 (Int.tdiv (IntKind.wrap .i64 ((IntKind.wrap .i64 (((d.1.length:Nat):Int)-((d.2.length:Nat):Int)))+((ft d:Nat):Int))) 2))=jg d
 rw[e1,ec]
 have hk:(k:Int)≤1000:=by omega
 rw[wrap_small (n:=((d.1.length:Nat):Int)-((d.2.length:Nat):Int)) (by omega) (by omega)]
 rw[wrap_small (n:=((d.1.length:Nat):Int)-((d.2.length:Nat):Int)+((ft d:Nat):Int)) (by omega) (by omega)]
 have e3:((d.1.length:Nat):Int)-((d.2.length:Nat):Int)+((ft d:Nat):Int)=2*((((kF d (labels d)).length:Nat):Int)-(k:Int)):=by omega
 rw[e3,Int.mul_tdiv_cancel_left _ (by decide)]
 rw[wrap_small (n:=(((kF d (labels d)).length:Nat):Int)-(k:Int)) (by omega) (by omega)]
 rw[wrap_small (by omega) (by omega)]
 omega
theorem TN(hp:PG G):J4 G:=fun d h=>by
 refine au (fn:=Tryz.f172) (hp.h _ _ rfl) (by kernel_rfl) (by kernel_rfl) ((Y0 _ _ _).trans ?_)
 refine aa (abn hp d h) ?_
 refine congrArg (fun b:Bool=>some ((b,()),())) ?_
 show(jg d==0)=decide (jg d=0)
 rw[Bool.eq_iff_iff];simp
end Go.Vs
