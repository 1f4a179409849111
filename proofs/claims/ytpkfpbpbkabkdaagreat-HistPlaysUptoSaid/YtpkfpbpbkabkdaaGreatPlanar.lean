/- What the program computes of -/
import Derived.Test.YtpkfpbpbkabkdaaGreatEuler
set_option linter.unusedVariables false
set_option linter.unusedSimpArgs false
namespace Go.Vs
open Go.Proofs
variable {G:(f:FuncId)→(g:aL)→Option (g.A→Option g.B)}
theorem Km(w:ag)(r:List ag)(x:ID):aR (w::r) x=if w.1=x then some w else aR r x:=by unfold aR;rw[List.find?_cons];by_cases h:w.1=x<;>simp[h]
theorem RJ(hG:HG G)(l:List ag)(x:ID)(hl:l.length≤1073741824):FX G 110108 j9 ((l,x,()),())=some (pz zV (aR l x),()):=by
 refine aq (hG _ _ rfl) QA ?_;have loop:∀(n i:Nat),i+n=l.length→LX G 110108 j9 Tryz.f108 lP (aN Tryz.prog 108 0) ((l,(((l.length:Nat):Int),((i:Int),()))),(((x,()),(((0:Int),((0:Int),(([]:List ab),(e0,((0:Int),()))))),())),()))=some (pz zV (aR (l.drop i) x),()):=by
  intro n
  induction n with
  |zero =>intro i hi;refine au Bn ?_;refine af (decide_eq_false (show ¬((i:Int)<((l.length:Nat):Int)) by omega)) ?_;rw[List.drop_eq_nil_of_le (by omega)];rfl
  |succ n ih =>
   intro i hi;have aF:i<l.length:=by omega
   have ahp:FX G 109 He ((l[i],()),())=some ((l[i].1,()),()):=aq (hG _ _ rfl) aag rfl;refine au Bn ?_;refine ae (aX aF) (aa (aJ (aci aF)) ?_);refine aa ahp ?_;rw[List.drop_eq_getElem_cons aF,Km];by_cases he:l[i].1=x
   ·rw[if_pos he];exact ae ((jk l[i].1 x).trans (decide_eq_true he)) rfl
   ·rw[if_neg he];refine af ((jk l[i].1 x).trans (decide_eq_false he)) ?_;have:=ih (i+1) (by omega);rw[←aG aF hl]at this;exact this
 have:=loop l.length 0 (by omega);rw[List.drop_zero]at this;exact this
theorem abU(hG:HG G)(d:aj)(x:ID)(hs:Sm d):FX G 74 G9 ((d,x,()),())=some (pz zV (bp d x),()):=by
 have hv:=hs.v;refine aq (hG _ _ rfl) ZT ?_;refine aa (RJ hG d.1 x (by omega)) ?_;unfold bp
 cases hf:aR d.1 x with
 |none=>exact aa (Xo (hG _ _ rfl) [] (by simp)) rfl
 |some v=>exact aa (Xo (hG _ _ rfl) v.2.1 (hs.r v (gm hf))) rfl
theorem RL(w:ag)(r:List ag)(x:ab):Fb (w::r) x=if x∈w.2.1 then some w.1 else Fb r x:=by unfold Fb;rw[List.find?_cons];by_cases h:x∈w.2.1<;>simp[h]
theorem VP(hG:HG G)(d:aj)(x:ab)(hs:Sm d):FX G 139 uK ((d,x,()),())=some (pz zI (cm d x),()):=by
 have hv:=hs.v;refine aq (hG _ _ rfl) aah ?_;have loop:∀(n i:Nat),i+n=d.1.length→LX G 139 uK Tryz.f139 uU (aN Tryz.prog 139 0) ((d.1,(((d.1.length:Nat):Int),((i:Int),()))),(((x,()),((zI,()),())),()))=some (pz zI (Fb (d.1.drop i) x),()):=by
  intro n
  induction n with
  |zero =>intro i hi;refine au K8 ?_;refine af (decide_eq_false (show ¬((i:Int)<((d.1.length:Nat):Int)) by omega)) ?_;rw[List.drop_eq_nil_of_le (by omega)];rfl
  |succ n ih =>
   intro i hi;have aF:i<d.1.length:=by omega
   refine au K8 ?_;refine ae (aX aF) (aa (aJ (aci aF)) ?_);refine aa (DN hG d.1[i].2.1 x (by have:=hs.r _ (adr aF);omega)) ?_;rw[List.drop_eq_getElem_cons aF,RL];by_cases he:x∈d.1[i].2.1
   ·rw[if_pos he];exact ae (decide_eq_true he) rfl
   ·rw[if_neg he];refine af (decide_eq_false he) ?_;have:=ih (i+1) (by omega);rw[←aG aF (by omega)]at this;exact this
 have:=loop d.1.length 0 (by omega);rw[List.drop_zero]at this;exact this
def Kn(x:ab):List aw→Int→Int
 |[],_ => -1
 |g::r,i=>if g.1=x then i else Kn x r (i+1)
theorem Il(x:ab):∀(l:List aw) (i:Nat),(Kn x l i = -1∧fV l x=none)∨∃k g,Kn x l (i:Int)=((i+k:Nat):Int)∧l[k]? = some g∧fV l x=some g.2
 |[],i=>.inl ⟨rfl,rfl⟩
 |g::r,i=>by
  rw[Kn,oY];by_cases h:g.1=x
  ·rw[if_pos h,if_pos h];exact .inr ⟨0,g,by simp,by simp,rfl⟩
  ·rw[if_neg h,if_neg h];have e:(i:Int)+1=((i+1:Nat):Int):=by omega
   rw[e];rcases Il x r (i+1) with⟨h1,h2⟩|⟨k,q,h1,h2,h3⟩
   ·exact .inl ⟨h1,h2⟩
   ·exact .inr ⟨k+1,q,by rw[h1];congr 1;omega,by simpa using h2,h3⟩
theorem RM(hG:HG G)(l:List aw)(x:ab)(hl:l.length≤1073741824):FX G 246244 iY ((l,()),((x,()),()))=some ((Kn x l 0,()),((x,()),())):=by
 refine aq (hG _ _ rfl) QC ?_;have loop:∀(n i:Nat),i+n=l.length→LX G 246244 iY Tryz.f244 jC (aN Tryz.prog 244 0) ((l,(((l.length:Nat):Int),((i:Int),()))),(((x,()),()),()))=some ((Kn x (l.drop i) i,()),((x,()),())):=by
  intro n
  induction n with
  |zero =>intro i hi;refine au Bp ?_;refine af (decide_eq_false (show ¬((i:Int)<((l.length:Nat):Int)) by omega)) ?_;rw[List.drop_eq_nil_of_le (by omega)];rfl
  |succ n ih =>
   intro i hi;have aF:i<l.length:=by omega
   have ahq:FX G 245 Hh ((l[i],()),((x.1.1,(x.1.2,(x.2,()))),()))=some (((((l[i].1.1.1==x.1.1)&&(l[i].1.1.2==x.1.2))&&(l[i].1.2==x.2)),()),((x.1.1,(x.1.2,(x.2,()))),())) :=aq (hG _ _ rfl) aam rfl;refine au Bp ?_;refine ae (aX aF) (aa (aJ (aci aF)) ?_);refine aa ahq ?_;rw[List.drop_eq_getElem_cons aF,Kn];by_cases he:l[i].1=x
   ·rw[if_pos he];exact ae ((kz l[i].1 x).trans (decide_eq_true he)) rfl
   ·rw[if_neg he];refine af ((kz l[i].1 x).trans (decide_eq_false he)) ?_;have:=ih (i+1) (by omega);have e:=aG aF hl;show LX G 246244 iY Tryz.f244 jC (aN Tryz.prog 244 0) ((l,(((l.length:Nat):Int),(IntKind.wrap .i64 ((i:Int)+1),()))),(((x,()),()),()))=some ((Kn x (l.drop (i+1)) ((i+1:Nat):Int),()),((x,()),()));rw[e];exact this
 have:=loop l.length 0 (by omega);rw[List.drop_zero]at this;exact this
theorem abV(hG:HG G)(l:List aw)(x:ab)(hl:l.length≤1073741824):FX G 230 Hf ((l,x,()),())=some (pz zD (fV l x),()):=by
 refine aq (hG _ _ rfl) aai ?_;refine aa (RM hG l x hl) ?_;rcases Il x l 0 with⟨h1,h2⟩|⟨k,g,h1,h2,h3⟩
 ·have h1:Kn x l 0 = -1:=h1;rw[h2];exact ae (decide_eq_true (show Kn x l 0<0 by omega)) rfl
 ·have h1:Kn x l 0=(k:Int):=by have:Kn x l ((0:Nat):Int)=Kn x l 0:=rfl;rw[←this,h1];congr 1;omega
  rw[h3];refine af (decide_eq_false (show ¬Kn x l 0<0 by omega)) ?_;refine aa (show aT l (Kn x l 0)=some g by rw[h1];exact aJ h2) ?_;rfl
theorem abW(hG:HG G)(s:StateT)(x:ab)(hs:Sm s.1)(hg:s.2.length≤50000000):FX G 212 xO ((s,x,()),())=some ((resolve s x,()),()):=by
 refine aq (hG _ _ rfl) ZU ?_;have hw:IntKind.wrap .i64 (((s.2.length:Nat):Int)+1)=((s.2.length+1:Nat):Int):=by rw[wrap_small (by omega) (by omega)];rfl
 have loop:∀(n i:Nat) (y:ab),i+n=s.2.length+1→LX G 212 xO Tryz.f212 uQ (aN Tryz.prog 212 0) (((IntKind.wrap .i64 (((s.2.length:Nat):Int)+1)),((i:Int),())),(((s,()),((y,()),((zD,()),()))),()))=some ((res s.1 s.2 n y,()),()):=by
  intro n
  induction n with
  |zero =>intro i y hi;refine au K4 ?_;exact af (decide_eq_false (show ¬((i:Int)<IntKind.wrap .i64 (((s.2.length:Nat):Int)+1)) by rw[hw];omega)) rfl
  |succ n ih =>
   intro i y hi;refine au K4 ?_;refine ae (decide_eq_true (show((i:Int)<IntKind.wrap .i64 (((s.2.length:Nat):Int)+1)) by rw[hw];omega)) ?_;refine aa (VP hG s.1 y hs) ?_;rw[res];have h1:(pz zI (cm s.1 y)).2.1=(cm s.1 y).isSome:=gZ _ _
   cases ha:(cm s.1 y).isSome
   ·rw[if_neg (by simp)];refine af (h1.trans ha) ?_;refine aa (abV hG s.2 y (by omega)) ?_
    cases hf:fV s.2 y with
    |none=>exact ae rfl rfl
    |some z =>
     refine af rfl ?_;have:=ih (i+1) z (by omega);have e:IntKind.wrap .i64 ((i:Int)+1)=((i+1:Nat):Int):=by rw[wrap_small (by omega) (by omega)];rfl
     rw[←e]at this;exact this
   ·rw[if_pos rfl];exact ae (h1.trans ha) rfl
 exact loop (s.2.length+1) 0 x (by omega)
theorem abX(hG:HG G)(s:StateT)(c:pq)(hs:Sm s.1)(hg:s.2.length≤50000000):FX G 180 G6 ((s,c,()),())=some (aZ s c,()):=by
 refine aq (hG _ _ rfl) ZF ?_;refine aa (abU hG s.1 c.1 hs) ?_;unfold aZ
 cases hf:bp s.1 c.1 with
 |none=>exact ae rfl rfl
 |some v =>
  refine af rfl ?_;refine aa (abW hG s c.2 hs hg) ?_;refine aa (DN hG v.2.1 (resolve s c.2) (by have:=hs.r v (gm hf);omega)) ?_;show _=some (((c.1,vh s c v),((0:Int),())),());unfold vh;by_cases hm:resolve s c.2∈v.2.1
  ·rw[if_pos hm];exact bj (decide_eq_true hm) rfl
  ·rw[if_neg hm];exact bj (decide_eq_false hm) rfl
def Ko(G:(f:FuncId)→(g:aL)→Option (g.A→Option g.B)):Prop:=∀d,Wf d→FX G 172 AL ((d,()),())=some ((decide (jc d=0),()),())
theorem LH{l:List ag}{e:List ah}{c:pq}{v:ag}(hs:bY l)(hf:aR l c.1=some v)(x:ab):l.set (bD l c.1) (v.1,(lS v.2.1 c.2 x,v.2.2))=(bN (l,e) c x).1:=by rw[Ka hs (cZ hs hf)];have hi:=kh hf;have hm:=gm hf;unfold bN Vs.b8;rw[←hi,jI (d:=(l,e)) hs hm]
theorem B4{d:aj}(h:Wf d):oO d.1 d.2=true:=by unfold oO;have h1:=h.nv;have h2:=h.ne;simp only[Bool.and_eq_true,decide_eq_true_eq,List.all_eq_true];exact⟨by omega,by omega,fun v hv=>by have:=h.tG v hv;omega⟩
theorem Uh(hG:HG G)(hp:Ko G)(o:aY):il G o:=by
 intro s h hm N8;have SY:=h.d.nv;have bq:=h.d.ne;have hn:=h.n;have Ue:=h.d.small;have bL:=Rk hm;have start:∀(e:Int) (w:aQ),bO 154 oQ Tryz.f154 (FX G) (LX G 154 oQ Tryz.f154) ((o,()),(aI s,()))=some ((e,()),(w,()))→FX G 154 oQ ((o,()),(aI s,()))=some ((e,()),(w,())):=fun e w a =>aq (hG _ _ rfl) a rfl;have f110:=VF hG (aI s) (aW o) h.d.se (by show s.1.2.length≤_;omega);unfold pC
 cases hf:(aV s.1.2 (aW o)).isSome with
 |true =>have e1:sM (aI s) (aW o)=(12,aI s):=if_pos hf;rw[e1]at f110;refine⟨12,aI s,start _ _ ((WT).trans (ae (B4 h.d) (aa f110 (ae rfl rfl)))),?_⟩;rw[if_pos (show(gE s.1 (aW o)).isSome=true from hf)];rfl
 |false =>
 rw[if_neg (show ¬(gE s.1 (aW o)).isSome=true by show ¬(aV s.1.2 (aW o)).isSome=true;rw[hf];simp)];by_cases h40:40≤s.1.2.length
 ·have e1:sM (aI s) (aW o)=(3,aI s):=(if_neg (show ¬(aV s.1.2 (aW o)).isSome=true by rw[hf];simp)).trans (if_pos h40);rw[e1]at f110;refine⟨3,aI s,start _ _ ((WT).trans (ae (B4 h.d) (aa f110 (ae rfl rfl)))),?_⟩;rw[if_pos h40];rfl
 rw[if_neg h40];obtain⟨E,hE⟩:∃E,E=dq (aW o,(e0,0)) s.1.2:=⟨_,rfl⟩;have e1:sM (aI s) (aW o)=(0,(s.1.1,(E,(s.2,())))):=by rw[hE];exact(if_neg (show ¬(aV s.1.2 (aW o)).isSome=true by rw[hf];simp)).trans (if_neg h40)
 rw[e1]at f110;obtain⟨x,hx⟩:∃x:ab,x=(aW o,0):=⟨_,rfl⟩;obtain⟨y,hy⟩:∃y:ab,y=(aW o,1):=⟨_,rfl⟩;have f111:FX G 179 AJ ((aW o,()),())=some ((x,y,()),()):=by rw[hx,hy];exact aq (hG _ _ rfl) Vo rfl
 have f112:=fun c:pq=>abX hG s c h.d.sm (by omega);have go:∀(e:Int) (w:aQ),LX G 154 oQ Tryz.f154 lO (aN Tryz.prog 154 0) (((2:Int),((0:Int),())),(((s.1.1,(E,(s.2,()))),((s,()),((x,()),()))),([x,y],([oA o,oB o],()))))=some ((e,()),(w,()))→FX G 154 oQ ((o,()),(aI s,()))=some ((e,()),(w,())):=fun e w a =>start _ _ ((WT).trans (ae (B4 h.d) (aa f110 (af rfl (aa f111 a)))));by_cases hA:(aZ s (oA o)).2.1=0
 case neg =>
  rw[if_pos hA];have ahr:aZ s (oA o)=(zC,(13,())):=by
   unfold aZ at hA ⊢
   cases hv:bp s.1 (oA o).1 with
   |none=>rfl
   |some v=>rw[hv]at hA;exact absurd rfl hA
  refine⟨13,(s.1.1,(E,(s.2,()))),go _ _ ?_,rfl⟩;refine au wB ?_;refine ae rfl (ae rfl (aa (a:=oA o) rfl (aa (f112 (oA o)) ?_)));rw[ahr];exact ae rfl rfl
 rw[if_neg (fun k=>k hA)];obtain⟨va,ca⟩:=oZ hA;obtain⟨cA,hcA⟩:∃c:pq,c=(aZ s (oA o)).1:=⟨_,rfl⟩;have eA:aZ s (oA o)=(cA,(0,())):=by
  rw[hcA];have:(aZ s (oA o)).2=(0,()):=by have h1:(aZ s (oA o)).2=((aZ s (oA o)).2.1,()):=rfl;rw[h1,hA]
  rw[←this]
 have cAv:(aR s.1.1 cA.1).isSome=true:=by rw[hcA,ca];exact va
 obtain⟨v1,uj⟩:=adi.1 cAv;have XB:=gm uj;obtain⟨d1,Nv⟩:∃d1:aj,d1=bN (s.1.1,E) cA x:=⟨_,rfl⟩;have aht:s.1.1.set (bD s.1.1 cA.1) (v1.1,(lS v1.2.1 cA.2 x,v1.2.2))=d1.1:=by rw[Nv];exact LH h.d.sv uj x
 have VQ:bY d1.1:=by rw[Nv];exact h.d.sv.re _ _
 have hl1:=(ack.1 (cZ h.d.sv uj)).1;have VR:∀v∈d1.1,v.2.1.length≤50000000:=fun v hv=>by
  rw[Nv]at hv;obtain⟨w,hw,rfl⟩:=adq.1 (show v∈s.1.1.map (rG cA.1 (lS (bJ (s.1.1,E) cA.1) cA.2 x)) from hv);have h1:=h.d.tG w hw;unfold rG
  split
  ·have h2:=xY (bJ (s.1.1,E) cA.1) cA.2 x;have h3:(bJ (s.1.1,E) cA.1).length≤80:=by rw[←kh uj,jI (d:=(s.1.1,E)) h.d.sv XB];exact h.d.tG v1 XB
   show(lS (bJ (s.1.1,E) cA.1) cA.2 x).length≤50000000;omega
  ·omega
 have d1l:d1.1.length=s.1.1.length:=by rw[Nv];exact eZ _ _ _
 have VS:∀(e:Int) (w:aQ),LX G 154 oQ Tryz.f154 lO (aN Tryz.prog 154 0) (((2:Int),((1:Int),())),(((d1.1,(E,(s.2,()))),((s,()),((x,()),()))),([x,y],([oA o,oB o],()))))=some ((e,()),(w,()))→FX G 154 oQ ((o,()),(aI s,()))=some ((e,()),(w,())):=fun e w a=>by
  refine go _ _ ?_;refine au wB ?_;refine ae rfl (ae rfl (aa (a:=oA o) rfl (aa (f112 (oA o)) ?_)));rw[eA];refine af rfl (af rfl ?_);refine aa (pH hG (s.1.1,(E,(s.2,()))) cA.1 h.d.sv Ue.n) ?_;refine ae (db (eQ _) (aX hl1)) (aa (cZ h.d.sv uj) ?_);refine ae rfl (aa (a:=x) rfl ?_);refine aa (Ri hG v1.2.1 cA.2 x (Ue.r v1 XB)) ?_;refine aa (cZ h.d.sv uj) ?_;have key:∀a1:List ag,a1=d1.1→LX G 154 oQ Tryz.f154 lO (aN Tryz.prog 154 0) (((2:Int),((1:Int),())),(((a1,(E,(s.2,()))),((s,()),((x,()),()))),([x,y],([oA o,oB o],()))))=some ((e,()),(w,())):=fun a1 D6=>by subst D6;exact a
  exact key _ aht
 by_cases hB:(aZ s (oB o)).2.1=0
 case neg =>
  rw[if_pos hB];have ahu:aZ s (oB o)=(zC,(13,())):=by
   unfold aZ at hB ⊢
   cases hv:bp s.1 (oB o).1 with
   |none=>rfl
   |some v=>rw[hv]at hB;exact absurd rfl hB
  refine⟨13,(d1.1,(E,(s.2,()))),VS _ _ ?_,rfl⟩;refine au wB ?_;refine ae rfl (ae rfl (aa (a:=oB o) rfl (aa (f112 (oB o)) ?_)));rw[ahu];exact ae rfl rfl
 rw[if_neg (fun k=>k hB)];obtain⟨vb,cb⟩:=oZ hB;obtain⟨cB,hcB⟩:∃c:pq,c=if(bp s.1 (oB o).1).isSome=true∧(oB o).2=(aW o,0) then oB o else(aZ s (oB o)).1:=⟨_,rfl⟩
 have eB:aZ s (oB o)=((aZ s (oB o)).1,(0,())):=by
  have:(aZ s (oB o)).2=(0,()):=by have h1:(aZ s (oB o)).2=((aZ s (oB o)).2.1,()):=rfl;rw[h1,hB]
  rw[←this]
 have cB1:cB.1=(oB o).1:=by rw[hcB];split;rfl;exact cb
 have cBv:(aR d1.1 cB.1).isSome=true:=by rw[Nv];exact vt _ (by rw[cB1];exact vb)
 obtain⟨v2,xg⟩:=adi.1 cBv;have ab0:=gm xg;have vQ:=(ack.1 (cZ VQ xg)).1;obtain⟨d2,Tj⟩:∃d2:aj,d2=bN d1 cB y:=⟨_,rfl⟩;have Ui:d1.1.set (bD d1.1 cB.1) (v2.1,(lS v2.2.1 cB.2 y,v2.2.2))=d2.1:=by rw[Tj];exact LH (e:=d1.2) VQ xg y
 have VT:fX s o=d2:=by rw[Tj,Nv,hcA,hcB,hx,hy,hE];rfl
 have hE2:d2.2=E:=by rw[Tj,Nv];rfl
 have hwf:Wf d2:=by
  rw[←VT];unfold fX;have hn0:aV s.1.2 (aW o)=none:=by simpa using hf
  refine h.d.link bL hn0 h40 (by rw[ca];exact va) ?_;rw[←hcB,cB1];exact vb
 have last:∀(e:Int) (w:aQ),LX G 154 oQ Tryz.f154 lO (aN Tryz.prog 154 0) (((2:Int),((2:Int),())),(((d2.1,(E,(s.2,()))),((s,()),((x,()),()))),([x,y],([oA o,oB o],()))))=some ((e,()),(w,()))→FX G 154 oQ ((o,()),(aI s,()))=some ((e,()),(w,())):=fun e w a=>by
  refine VS _ _ ?_;refine au wB ?_;refine ae rfl (ae rfl (aa (a:=oB o) rfl (aa (f112 (oB o)) ?_)));rw[eB];have key:∀a2:List ag,a2=d2.1→LX G 154 oQ Tryz.f154 lO (aN Tryz.prog 154 0) (((2:Int),((2:Int),())),(((a2,(E,(s.2,()))),((s,()),((x,()),()))),([x,y],([oA o,oB o],()))))=some ((e,()),(w,())):=fun a2 CU=>by subst CU;exact a
  refine af rfl (ae rfl ?_);have pK:=kz (oB o).2 x;by_cases Ym:(oB o).2=x
  ·have ecB:cB=oB o:=by rw[hcB];exact if_pos ⟨vb,Ym.trans hx⟩
   refine ae (pK.trans (decide_eq_true Ym)) ?_;rw[ecB]at xg vQ Ui;refine aa (pH hG (d1.1,(E,(s.2,()))) (oB o).1 VQ (by show d1.1.length≤_;omega)) ?_;refine ae (db (eQ _) (aX vQ)) (aa (cZ VQ xg) ?_);refine ae rfl (aa (a:=y) rfl ?_);refine aa (Ri hG v2.2.1 (oB o).2 y (VR v2 ab0)) ?_;refine aa (cZ VQ xg) ?_;exact key _ Ui
  ·have ecB:cB=(aZ s (oB o)).1:=by rw[hcB];exact if_neg (fun k=>Ym (k.2.trans hx.symm))
   refine af (pK.trans (decide_eq_false Ym)) ?_;rw[ecB]at xg vQ Ui;refine aa (pH hG (d1.1,(E,(s.2,()))) (aZ s (oB o)).1.1 VQ (by show d1.1.length≤_;omega)) ?_;refine ae (db (eQ _) (aX vQ)) (aa (cZ VQ xg) ?_);refine ae rfl (aa (a:=y) rfl ?_);refine aa (Ri hG v2.2.1 (aZ s (oB o)).1.2 y (VR v2 ab0)) ?_;refine aa (cZ VQ xg) ?_;exact key _ Ui
 have f114:=hp d2 hwf;rw[VT];have e2:(d2.1,E)=d2:=by rw[←hE2]
 by_cases hg:jc d2=0
 ·rw[if_neg (fun k=>k hg)];refine⟨0,(d2.1,(E,(s.2,()))),last _ _ ?_,?_⟩
  ·refine au wB ?_;refine af rfl ?_;have key:∀q:aj,q=d2→((FX G 172 AL ((q,()),())).bind fun(DH:((Bool×Unit)×Unit))=>cond (not DH.1.1) (some (((15:Int),()),((d2.1,(E,(s.2,()))),()))) (some (((0:Int),()),((d2.1,(E,(s.2,()))),()))))=some (((0:Int),()),((d2.1,(E,(s.2,()))),())):=fun q hq=>by subst hq;exact aa f114 (bj (decide_eq_true hg) rfl)
   exact key _ e2
  ·show(ze (d2.1,(E,(s.2,()))),((0:Int),()))=((d2,s.2),(0,()));show(((d2.1,E),s.2),((0:Int),()))=((d2,s.2),(0,()));rw[e2]
 ·rw[if_pos hg];refine⟨15,(d2.1,(E,(s.2,()))),last _ _ ?_,rfl⟩;refine au wB ?_;refine af rfl ?_;have key:∀q:aj,q=d2→((FX G 172 AL ((q,()),())).bind fun(DH:((Bool×Unit)×Unit))=>cond (not DH.1.1) (some (((15:Int),()),((d2.1,(E,(s.2,()))),()))) (some (((0:Int),()),((d2.1,(E,(s.2,()))),()))))=some (((15:Int),()),((d2.1,(E,(s.2,()))),())):=fun q hq=>by subst hq;exact aa f114 (bj (decide_eq_false hg) rfl)
  exact key _ e2
theorem ab1(hG:HG G)(row:List ab)(d:ab)(hl:row.length≤100000000):FX G 261 Hk ((row,d,()),())=some (HH (dF row d 1),()):=by
 refine aq (hG _ _ rfl) aau ?_;have key:FX G 167 AR ((row,(d,((1:Int),()))),())=some (HH (dF row d 1),()):=by
  refine aq (hG _ _ rfl) Vp ?_;refine aa (BF (hG _ _ rfl) row d (by omega)) ?_;unfold dF;by_cases hd:d∈row
  ·rw[if_pos hd];obtain⟨k,h1,h2,h3⟩:=fh hd;have aF:=(ack.1 h2).1;refine af (decide_eq_false (show ¬idx d row 0<0 by omega)) ?_;refine af (Fa hd) ?_;have TH:IntKind.wrap .i64 (idx d row 0+1)=((k+1:Nat):Int):=by rw[h1,wrap_small (by omega) (by omega)];rfl
   have wJ:(k+1)%row.length<row.length:=adU _ (by omega);have hx:=aci wJ;refine aa (show aT row (Int.tmod (IntKind.wrap .i64 (idx d row 0+1)) ((row.length:Nat):Int))=some row[(k+1)%row.length] by rw[TH,qI];exact aJ hx) ?_;rw[h1,Int.toNat_natCast,hx];rfl
  ·rw[if_neg hd];exact ae (decide_eq_true (eg.2 hd)) rfl
 refine aa key ?_;rfl
def Im(x:ab):List ag→Option ab
 |[]=>none
 |v::r=>if x∈v.2.1 then dF v.2.1 x 1 else Im x r
theorem LI{l:List ag}(h:Rw l){v:ag}{x:ab}(hv:v∈l)(hx:x∈v.2.1):∀r,(∀u∈r,u∈l)→v∈r→Im x r=dF v.2.1 x 1
 |[],_,k=>by cases k
 |u::r,hs,k=>by
  rw[Im];by_cases hu:x∈u.2.1
  ·rw[if_pos hu,h.one hv (hs u List.mem_cons_self) hx hu]
  ·rw[if_neg hu];rcases acn.1 k with e|k
   ·rw[e]at hx;exact absurd hx hu
   ·exact LI h hv hx r (fun w hw=>hs w (acm _ hw)) k
theorem D7{x:ab}:∀{l:List ag},x∉ar l→Im x l=none
 |[],_=>rfl
 |v::r,h=>by rw[jG,List.mem_append]at h;rw[Im,if_neg (fun k=>h (.inl k))];exact D7 fun k=>h (.inr k)
theorem Kp{d:aj}(h:Rw d.1)(x:ab):Im x d.1=nN d x:=by
 by_cases hx:x∈ar d.1
 ·obtain⟨v,hv,kA⟩:=br.1 hx;rw[BV h hv kA];exact LI h hv kA d.1 (fun _ k=>k) hv
 ·rw[D7 hx];unfold nN cm;rw[HU hx]
theorem ab2(hG:HG G)(d:aj)(x:ab)(hs:Sm d)(h:Rw d.1):FX G 258 xS ((d,x,()),())=some (HH (nN d x),()):=by
 have hv:=hs.v;rw[←Kp h x];refine aq (hG _ _ rfl) aar ?_;have loop:∀(n i:Nat),i+n=d.1.length→LX G 258 xS Tryz.f258 uY (aN Tryz.prog 258 0) ((d.1,(((d.1.length:Nat):Int),((i:Int),()))),(((x,()),((zD,()),())),()))=some (HH (Im x (d.1.drop i)),()):=by
  intro n
  induction n with
  |zero =>intro i hi;refine au Le ?_;refine af (decide_eq_false (show ¬((i:Int)<((d.1.length:Nat):Int)) by omega)) ?_;rw[List.drop_eq_nil_of_le (by omega)];rfl
  |succ n ih =>
   intro i hi;have aF:i<d.1.length:=by omega
   refine au Le ?_;refine ae (aX aF) (aa (aJ (aci aF)) ?_);refine aa (ab1 hG d.1[i].2.1 x (by have:=hs.r _ (adr aF);omega)) ?_;rw[List.drop_eq_getElem_cons aF,Im];by_cases he:x∈d.1[i].2.1
   ·rw[if_pos he];unfold dF;rw[if_pos he];obtain⟨k,h1,h2,h3⟩:=fh he;have hl:=(ack.1 h2).1;have hm:((idx x d.1[i].2.1 0).toNat+1)%d.1[i].2.1.length<d.1[i].2.1.length:=adU _ (by omega);rw[List.getElem?_eq_getElem hm];exact ae rfl rfl
   ·rw[if_neg he];unfold dF;rw[if_neg he];refine af rfl ?_;have:=ih (i+1) (by omega);rw[←aG aF (by omega)]at this;exact this
 have:=loop d.1.length 0 (by omega);rw[List.drop_zero]at this;exact this
theorem at_mem{d:aj}{x:ab}(h:(cm d x).isSome=true):x∈ar d.1:=by
 apply Classical.byContradiction;intro k;unfold cm at h;rw[HU k]at h
 cases h
theorem ab3(hG:HG G)(d:aj)(x:ab)(h:Wf d):FX G 255 Dy ((d,x,()),())=some (HH (HL d x),()):=by
 have hs:=h.sm;refine aq (hG _ _ rfl) aap ?_;refine aa (VP hG d x hs) ?_;have h1:(pz zI (cm d x)).2.1=(cm d x).isSome:=gZ _ _;unfold HL
 cases ha:(cm d x).isSome
 ·rw[if_neg (by simp)];exact bj (h1.trans ha) rfl
 ·rw[if_pos rfl];refine bj (h1.trans ha) ?_;refine aa (H3 (hG _ _ rfl) x (h.side (at_mem ha))) ?_;exact aa (ab2 hG d (ao x) hs h.rw) rfl
theorem ab4(hG:HG G)(d:aj)(hs:Sm d):FX G 249 uL ((d,()),())=some ((ep d.2,()),()):=by
 have he:=hs.e;refine aq (hG _ _ rfl) aao ?_;have loop:∀(n i:Nat) (out:List ab),i+n=d.2.length→out.length=2*i→LX G 249 uL Tryz.f249 uV (aN Tryz.prog 249 0) ((d.2,(((d.2.length:Nat):Int),((i:Int),()))),((),(out,())))=some ((out++ep (d.2.drop i),()),()):=by
  intro n
  induction n with
  |zero =>intro i out hi ho;refine au K9 ?_;refine af (decide_eq_false (show ¬((i:Int)<((d.2.length:Nat):Int)) by omega)) ?_;rw[List.drop_eq_nil_of_le (by omega)];show some ((out,()),())=some ((out++[],()),());rw[List.append_nil]
  |succ n ih =>
   intro i out hi ho;have aF:i<d.2.length:=by omega
   refine au K9 ?_;refine ae (aX aF) (aa (aJ (aci aF)) ?_);refine aa (H3 (hG _ _ rfl) (d.2[i].1,0) (.inl rfl)) ?_;refine ae (fits (by show out.length+2≤_;omega)) ?_;have:=ih (i+1) (out++[(d.2[i].1,0),(d.2[i].1,1)]) (by omega) (by simp[ho];omega);rw[List.drop_eq_getElem_cons aF];rw[←aG aF (by omega),List.append_assoc]at this;exact this
 exact loop d.2.length 0 [] (by omega) rfl
theorem RN(hG:HG G)(l:List ag)(hl:l.length≤50000000):FX G 240238 kb ((l,()),())=some ((((al l:Nat):Int),()),()):=by
 refine aq (hG _ _ rfl) QD ?_;have loop:∀(n i m:Nat),i+n=l.length→m≤i→LX G 240238 kb Tryz.f238 jD (aN Tryz.prog 238 0) (((m:Int),(l,(((l.length:Nat):Int),((i:Int),())))),((),()))=some ((((m+al (l.drop i):Nat):Int),()),()):=by
  intro n
  induction n with
  |zero =>intro i m hi hm;refine au Bq ?_;refine af (decide_eq_false (show ¬((i:Int)<((l.length:Nat):Int)) by omega)) ?_;rw[List.drop_eq_nil_of_le (by omega)];rfl
  |succ n ih =>
   intro i m hi hm;have aF:i<l.length:=by omega
   have ahw:FX G 239 Hi ((l[i],()),())=some ((l[i].2.1.isEmpty,()),()):=by
    refine aq (hG _ _ rfl) aan ?_;have:(((l[i].2.1.length:Nat):Int)==0)=l[i].2.1.isEmpty:=by cases l[i].2.1<;>simp;omega
    exact congrArg (fun b:Bool=>some ((b,()),())) this
   refine au Bq ?_;refine ae (aX aF) (aa (aJ (aci aF)) ?_);refine aa ahw ?_;rw[List.drop_eq_getElem_cons aF];unfold al;rw[List.countP_cons]
   cases hb:l[i].2.1.isEmpty
   ·refine af rfl ?_;have:=ih (i+1) m (by omega) (by omega);rw[←aG aF (by omega)]at this;exact this
   ·refine ae rfl ?_;have:=ih (i+1) (m+1) (by omega) (by omega);rw[←aG aF (by omega),←aG (i:=m) (n:=l.length) (by omega) (by omega)]at this;refine this.trans ?_;refine congrArg (fun q:Nat=>some ((((q:Nat):Int),()),())) ?_;unfold al;simp;omega
 have:=loop l.length 0 0 (by omega) (by omega);rw[List.drop_zero,Nat.zero_add]at this;exact this
def Fo(g:List Nat):Prop:=∀(i x:Nat),g[i]? = some x→x≤i
def root(g:List Nat)(i:Nat):Nat :=match g[i]? with
 |some x=>if h:x<i then root g x else i
 |none=>i
termination_by i
theorem dy{g:List Nat}{i x:Nat}(h:g[i]? = some x):root g i=if x<i then root g x else i:=by rw[root,h];simp
theorem lf{g:List Nat}{i:Nat}(h:g[i]? = none):root g i=i:=by rw[root,h]
theorem LJ(g:List Nat):∀i,root g i≤i:=by
 intro i
 induction i using Nat.strongRecOn with
 |_ i ih =>
  cases h:g[i]? with
  |none=>rw[lf h];exact adg _
  |some x =>
   rw[dy h]
   split
   ·rename_i hx;have:=ih x hx;omega
   ·exact adg _
theorem Io{g:List Nat}(hf:Fo g):∀i,i<g.length→g[root g i]? = some (root g i):=by
 intro i
 induction i using Nat.strongRecOn with
 |_ i ih =>
  intro hi;have h:=aci hi;rw[dy h]
  split
  ·rename_i hx;exact ih _ hx (by omega)
  ·have:=hf i _ h;rw[h];congr 1;omega
theorem lg{g:List Nat}{i:Nat}(h:g[i]? = some i):root g i=i:=by rw[dy h,if_neg (by omega)]
theorem Fo.set{g:List Nat}(hf:Fo g){i y:Nat}(h:y≤i):Fo (g.set i y):=fun j x hj=>by
 rw[List.getElem?_set]at hj
 split at hj
 ·rename_i e;subst e
  split at hj
  ·cases hj;exact h
  ·cases hj
 ·exact hf j x hj
theorem Kq{g:List Nat}(hf:Fo g){i x y:Nat}(hi:g[i]? = some x)(hx:g[x]? = some y)(aF:x<i):∀j,root (g.set i y) j=root g j:=by
 have hyx:=hf x y hx;have oc:=(ack.1 hi).1;intro j
 induction j using Nat.strongRecOn with
 |_ j ih =>
  by_cases e:j=i
  ·subst e;have h1:(g.set j y)[j]? = some y:=by rw[List.getElem?_set];simp[oc]
   rw[dy h1,if_pos (by omega),ih y (by omega),dy hi,if_pos aF,dy hx]
   split
   ·rfl
   ·have:y=x:=by omega
    subst this;exact lg hx
  ·have h1:(g.set i y)[j]? = g[j]? := by rw[List.getElem?_set,if_neg (fun k=>e k.symm)]
   cases h:g[j]? with
   |none=>rw[lf h,lf (h1.trans h)]
   |some z =>
    rw[dy h,dy (h1.trans h)]
    split
    ·rename_i hz;exact ih z hz
    ·rfl
theorem NL{g:List Nat}{a b:Nat}(ha:g[a]? = some a)(hb:g[b]? = some b):∀j,root (g.set (max a b) (min a b)) j=if root g j=max a b then min a b else root g j:=by
 have hm:g[max a b]? = some (max a b):=by rcases Nat.le_total a b with h|h<;>simp[Nat.max_eq_right,Nat.max_eq_left,h,ha,hb]
 have hn:g[min a b]? = some (min a b):=by rcases Nat.le_total a b with h|h<;>simp[Nat.min_eq_right,Nat.min_eq_left,h,ha,hb]
 have hml:=(ack.1 hm).1;have hle:min a b≤max a b:=by omega
 generalize max a b=M at *;generalize min a b=m at *;have aF:∀j,(g.set M m)[j]? = if j=M then some m else g[j]? := fun j=>by
  rw[List.getElem?_set];by_cases e:M=j
  ·subst e;simp[hml]
  ·rw[if_neg e,if_neg (fun k=>e k.symm)]
 intro j
 induction j using Nat.strongRecOn with
 |_ j ih =>
  by_cases ej:j=M
  ·subst ej;have h1:(g.set j m)[j]? = some m:=by rw[aF,if_pos rfl]
   rw[dy h1,lg hm,if_pos rfl];by_cases e:m<j
   ·rw[if_pos e,ih m e,lg hn,if_neg (by omega)]
   ·rw[if_neg e];omega
  ·have h1:(g.set M m)[j]? = g[j]? := by rw[aF,if_neg ej]
   cases h:g[j]? with
   |none=>rw[lf h,lf (h1.trans h),if_neg ej]
   |some z =>
    rw[dy h,dy (h1.trans h)];by_cases hz:z<j
    ·rw[if_pos hz,if_pos hz];exact ih z hz
    ·rw[if_neg hz,if_neg hz,if_neg ej]
def fI(g:List Nat):List Int:=g.map fun n=>((n:Nat):Int)
theorem B5(g:List Nat):(fI g).length=g.length:=by simp[fI]
theorem tJ{g:List Nat}{i x:Nat}(h:g[i]? = some x):(fI g)[Int.toNat (i:Int)]? = some (x:Int):=by simp[fI,h]
theorem RO(g:List Nat)(i x:Nat):(fI g).set (Int.toNat (i:Int)) (x:Int)=fI (g.set i x):=by simp[fI,List.map_set]
theorem B6{g:List Nat}{i:Nat}(h:i<g.length):(decide ((0:Int)≤(i:Int))&&decide ((i:Int)<(((fI g).length:Nat):Int)))=true:=by rw[B5];exact db (eQ i) (aX h)
structure D8(g g':List Nat):Prop where
 f:Fo g'
 n:g'.length=g.length
 r:∀j,root g' j=root g j
theorem D8.trans{a b c:List Nat}(h:D8 a b)(k:D8 b c):D8 a c:=⟨k.f,k.n.trans h.n,fun j=>(k.r j).trans (h.r j)⟩
theorem RP(hG:HG G)(g:List Nat)(i:Nat)(hf:Fo g)(hi:i<g.length):∃g',D8 g g'∧FX G 260 qC (((i:Int),()),(fI g,()))=some ((((root g i:Nat):Int),()),(fI g',())):=by
 have loop:∀(i:Nat) (g:List Nat),Fo g→i<g.length→∃g',D8 g g'∧LX G 260 qC Tryz.f260 rB (aN Tryz.prog 260 0) (((i:Int),()),((),(fI g,())))=some ((((root g i:Nat):Int),()),(fI g',())):=by
  intro i
  induction i using Nat.strongRecOn with
  |_ i ih =>
   intro g hf hi;have h:=aci hi;generalize g[i]=x at h;have hxi:=hf i x h;by_cases hx:x<i
   ·have h2:=aci (show x<g.length by omega);generalize g[x]=y at h2;have hyx:=hf x y h2;have hs:=Kq hf h h2 hx;have hf2:Fo (g.set i y):=hf.set (by omega);obtain⟨g',h3,h4⟩:=ih y (by omega) (g.set i y) hf2 (by rw[List.length_set];omega);refine⟨g',⟨h3.f,by rw[h3.n,List.length_set],fun j=>(h3.r j).trans (hs j)⟩,?_⟩;refine au Lf ?_;refine ae (B6 hi) (aa (tJ h) ?_);refine ae (show(((x:Nat):Int) != (i:Int))=true by rw[bne_iff_ne];omega) ?_;refine ae (B6 hi) (aa (tJ h) ?_);refine ae (B6 (show x<g.length by omega)) (aa (tJ h2) ?_);refine ae (B6 hi) (aa (tJ h) ?_);have ahx:=RO g i y;have key:∀f:List Int,f=fI (g.set i y)→cond ((decide ((0:Int)≤(i:Int)))&&(decide ((i:Int)<(((List.length f):Nat):Int)))) (((f)[(Int.toNat (i:Int))]?).bind fun(y5:Int)=>LX G 260 qC Tryz.f260 rB (aN Tryz.prog 260 0) ((y5,()),((),(f,())))) none=some ((((root g i:Nat):Int),()),(fI g',())):=fun f hf=>by
     subst hf;refine ae (B6 (by rw[List.length_set];exact hi)) (aa (tJ (x:=y) (by rw[List.getElem?_set];simp[hi])) ?_);rw[h4,hs y,dy h,if_pos hx,dy h2];by_cases hy:y<x
     ·rw[if_pos hy]
     ·have:y=x:=by omega
      subst this;rw[if_neg (by omega),lg h2]
    exact key _ ahx
   ·have:x=i:=by omega
    subst this;refine⟨g,⟨hf,rfl,fun _=>rfl⟩,?_⟩;refine au Lf ?_;refine ae (B6 hi) (aa (tJ h) ?_);rw[lg h];exact af (by simp) rfl
 obtain⟨g',h1,h2⟩:=loop i g hf hi;exact⟨g',h1,aq (hG _ _ rfl) aat h2⟩
def B7(a b r:Nat):Nat:=if r=max a b then min a b else r
theorem ab5(hG:HG G)(g:List Nat)(i k:Nat)(hf:Fo g)(hi:i<g.length)(hk:k<g.length):∃g',Fo g'∧g'.length=g.length∧(∀j,root g' j=B7 (root g i) (root g k) (root g j))∧FX G 259 Hj (((i:Int),((k:Int),())),(fI g,()))=some ((),(fI g',())):=by
 obtain⟨g1,h1,e1⟩:=RP hG g i hf hi;obtain⟨g2,h2,e2⟩:=RP hG g1 k h1.f (by rw[h1.n];exact hk);rw[h1.r k]at e2;have hs:=h1.trans h2;have ra:g2[root g i]? = some (root g i):=by have:=Io hs.f i (by rw[hs.n];exact hi);rw[hs.r i]at this;exact this
 have rb:g2[root g k]? = some (root g k):=by have:=Io hs.f k (by rw[hs.n];exact hk);rw[hs.r k]at this;exact this
 have hal:=(ack.1 ra).1;have hbl:=(ack.1 rb).1;have hm:max (root g i) (root g k)<g2.length:=by omega
 refine⟨g2.set (max (root g i) (root g k)) (min (root g i) (root g k)),hs.f.set (by omega),by rw[List.length_set,hs.n],fun j=>by rw[NL ra rb j,hs.r j];rfl,?_⟩;refine aq (hG _ _ rfl) aas ?_;refine aa e1 (aa e2 ?_);have em:(max ((root g i:Nat):Int) ((root g k:Nat):Int):Int)=((max (root g i) (root g k):Nat):Int):=by omega
 have en:(min ((root g i:Nat):Int) ((root g k:Nat):Int):Int)=((min (root g i) (root g k):Nat):Int):=by omega
 have key:∀m n:Int,m=((max (root g i) (root g k):Nat):Int)→n=((min (root g i) (root g k):Nat):Int)→cond ((decide ((0:Int)≤m))&&(decide (m<(((List.length (fI g2)):Nat):Int)))) (((fI g2)[(Int.toNat m)]?).bind fun(y3:Int)=>(some ((),((List.set (fI g2) (Int.toNat m) n),())):Option (Unit×((List Int)×Unit)))) none=some ((),(fI (g2.set (max (root g i) (root g k)) (min (root g i) (root g k))),())):=fun m n Tg I9=>by subst Tg I9;refine ae (B6 hm) (aa (tJ (aci hm)) ?_);rw[RO]
 exact key _ _ em en
theorem Kr{α:Type}(x:ab)(es:List (ab×α)):sR bm x es=es.findIdx? fun e=>decide (e.1=x):=by
 show List.findIdx? (fun e:ab×α=>((x.1.1==e.1.1.1)&&(x.1.2==e.1.1.2))&&(x.2==e.1.2)) es=_;congr 1;funext e;rw[kz x e.1];by_cases h:x=e.1
 ·rw[decide_eq_true h,decide_eq_true h.symm]
 ·rw[decide_eq_false h,decide_eq_false (fun k=>h k.symm)]
def fk{β α:Type}[DecidableEq β](x:β):List (β×α)→Option α
 |[]=>none
 |e::r=>if e.1=x then some e.2 else fk x r
theorem Ks{β α:Type}[DecidableEq β](x:β):∀es:List (β×α),((es.findIdx? fun e=>decide (e.1=x)).bind fun i=>(es[i]?).map (·.2))=fk x es
 |[]=>rfl
 |e::r=>by
  have ih:=Ks x r;rw[List.findIdx?_cons,fk];by_cases h:e.1=x
  ·rw[if_pos (decide_eq_true h),if_pos h];rfl
  ·rw[if_neg (by simpa using h),if_neg h,←ih]
   cases r.findIdx? fun e=>decide (e.1=x)<;>simp
theorem RQ{α:Type}(x:ab)(es:List (ab×α)):iJ bm x es=fk x es:=by have:=Ks x es;rw[←Kr]at this;exact this
theorem RR{α:Type}{x:ab}(v:α){es:List (ab×α)}(h:x∉es.map (·.1)):l8 bm x v es=es++[(x,v)]:=by
 have e:sR bm x es=none:=by rw[Kr,List.findIdx?_eq_none_iff];intro q hq;exact decide_eq_false fun k=>h (adq.2 ⟨q,hq,k⟩)
 unfold l8
 split
 ·rename_i i k;rw[e]at k;cases k
 ·rfl
theorem Ip{β α:Type}[DecidableEq β]{x:β}{v:α}:∀{es:List (β×α)},(es.map (·.1)).Nodup→(x,v)∈es→fk x es=some v
 |[],_,h=>by cases h
 |e::r,hn,h=>by
  simp only[List.map_cons,List.nodup_cons]at hn;rw[fk];rcases acn.1 h with e1|h
  ·subst e1;rw[if_pos rfl]
  ·rw[if_neg (fun k=>hn.1 (by rw[k];exact List.mem_map.2 ⟨_,h,rfl⟩))];exact Ip hn.2 h
def gV:List ag→Nat→List (ab×Int)
 |[],_=>[]
 |v::r,i=>v.2.1.map (fun x=>(x,(i:Int)))++gV r (i+1)
theorem wW:∀(l:List ag) (i:Nat),(gV l i).map (·.1)=ar l
 |[],_=>rfl
 |v::r,i=>by
  have e:(v.2.1.map fun x=>(x,(i:Int))).map (·.1)=v.2.1:=by rw[List.map_map];exact List.map_id _
  rw[gV,jG,List.map_append,wW r,e]
theorem Iq:∀(a b:List ag) (i:Nat),gV (a++b) i=gV a i++gV b (i+a.length)
 |[],b,i=>rfl
 |v::r,b,i=>by rw[List.cons_append,gV,gV,Iq r b,List.append_assoc];congr 3;simp;omega
theorem Ir{x:ab}{a:Int}:∀{l:List ag} {i:Nat},(x,a)∈gV l i→∃k v,l[k]? = some v∧a=((i+k:Nat):Int)∧x∈v.2.1
 |[],i,h=>by cases h
 |v::r,i,h=>by
  rw[gV]at h;rcases adb.1 h with h|h
  ·obtain⟨y,hy,e⟩:=adq.1 h
   cases e
   exact⟨0,v,rfl,rfl,hy⟩
  ·obtain⟨k,u,h1,h2,h3⟩:=Ir h;exact⟨k+1,u,by simpa using h1,by rw[h2];congr 1;omega,h3⟩
theorem LK{x:ab}:∀{l:List ag} {i k:Nat} {v:ag},l[k]? = some v→x∈v.2.1→(x,((i+k:Nat):Int))∈gV l i
 |v::r,i,0,u,h,hx=>by simp at h;subst h;rw[gV];exact acr _ (adq.2 ⟨x,hx,rfl⟩)
 |v::r,i,k+1,u,h,hx=>by
  rw[gV];refine acW _ ?_;have:=LK (i:=i+1) (k:=k) (by simpa using h) hx
  rwa [show i+1+k=i+(k+1) by omega]at this
theorem RS(i:Nat):fI (List.range i)++[(i:Int)]=fI (List.range (i+1)):=by rw[List.range_succ];simp[fI]
section
variable {d:aj} {y:gQ.B}
theorem Uj(h:Wf d){i:Nat}(hi:i<d.1.length){f:List Int}{nn:Int} (next:LX G 256 gQ Tryz.f256 rz (aN Tryz.prog 256 0) ((d.1,(nn,((IntKind.wrap .i64 ((i:Int)+1)),()))),((),(f,(gV (d.1.take (i+1)) 0,()))))=some y):∀(n j:Nat) (es:List (ab×Int)),j+n=d.1[i].2.1.length→es=gV (d.1.take i) 0++(d.1[i].2.1.take j).map (fun x=>(x,(i:Int))) → LX G 256 gQ Tryz.f256 uW (aN Tryz.prog 256 1) (((i:Int),(d.1,(nn,((i:Int),(d.1[i].2.1,(((d.1[i].2.1.length:Nat):Int),((j:Int),()))))))),((),(f,(es,()))))=some y:=by
 have hr:=h.tG d.1[i] (adr hi);have et:d.1.take (i+1)=d.1.take i++[d.1[i]]:=(List.take_append_getElem hi).symm;have ev:gV (d.1.take (i+1)) 0=gV (d.1.take i) 0++d.1[i].2.1.map (fun x=>(x,(i:Int))):=by
  rw[et,Iq];have:(d.1.take i).length=i:=by rw[List.length_take];omega
  rw[this,Nat.zero_add];congr 1;show d.1[i].2.1.map (fun x=>(x,(i:Int)))++[]=_;rw[List.append_nil]
 have nd:(ar (d.1.take i)++d.1[i].2.1).Nodup:=by
  have h1:=h.rw.n;rw[←List.take_append_drop (i+1) d.1,et,nV,nV]at h1;have e2:ar [d.1[i]]=d.1[i].2.1:=by rw[jG];exact List.append_nil _
  rw[e2]at h1;exact(adz.1 h1).1
 intro n
 induction n with
 |zero =>intro j es hj he;refine au Lb ?_;refine af (decide_eq_false (show ¬((j:Int)<((d.1[i].2.1.length:Nat):Int)) by omega)) ?_;have e:d.1[i].2.1.take j=d.1[i].2.1:=adV (by omega);rw[e,←ev]at he;subst he;exact next
 |succ n ih =>
  intro j es hj he;have aF:j<d.1[i].2.1.length:=by omega
  refine au Lb ?_;refine ae (aX aF) (aa (aJ (aci aF)) ?_);have Cw:d.1[i].2.1[j]∉es.map (·.1):=by
   have e3:((d.1[i].2.1.take j).map fun x=>(x,(i:Int))).map (·.1)=d.1[i].2.1.take j:=by rw[List.map_map];exact List.map_id _
   rw[he,List.map_append,wW,e3,List.mem_append];rintro(k|k)
   ·exact(adz.1 nd).2.2 _ k _ (adr aF) rfl
   ·obtain⟨q,hq,he⟩:=adM k;have hq1:q<j:=by rw[List.length_take]at hq;omega
    rw[List.getElem_take]at he;have:=(List.getElem_inj (adz.1 nd).2.1).1 he;omega
  have:=ih (j+1) (l8 bm d.1[i].2.1[j] (i:Int) es) (by omega) (by rw[RR _ Cw,he,←List.take_append_getElem aF,List.map_append,List.append_assoc];rfl);rw[←aG aF (by omega)]at this;exact this
theorem Uk(h:Wf d) (next:LX G 256 gQ Tryz.f256 oR (aN Tryz.prog 256 2) ((gV d.1 0,()),((),(fI (List.range d.1.length),((none,gV d.1 0),()))))=some y):∀(n i:Nat),i+n=d.1.length → LX G 256 gQ Tryz.f256 rz (aN Tryz.prog 256 0) ((d.1,(((d.1.length:Nat):Int),((i:Int),()))),((),(fI (List.range i),(gV (d.1.take i) 0,()))))=some y:=by
 have hn:=h.nv;intro n
 induction n with
 |zero =>
  intro i hi;have e:i=d.1.length:=by omega
  subst e;refine au La ?_;refine af (decide_eq_false (show ¬(((d.1.length:Nat):Int)<((d.1.length:Nat):Int)) by omega)) ?_;rw[List.take_length];exact next
 |succ n ih =>
  intro i hi;have aF:i<d.1.length:=by omega
  refine au La ?_;refine ae (aX aF) (aa (aJ (aci aF)) ?_);refine ae (fits (by show(fI (List.range i)).length+1≤_;rw[B5];simp;omega)) ?_;have nx:=ih (i+1) (by omega);rw[←aG aF (by omega),←RS]at nx;exact Uj (G:=G) h aF nx d.1[i].2.1.length 0 _ (by omega) (by simp)
end
end Go.Vs
namespace Go.Vs
open Go.Proofs
variable {G:(f:FuncId)→(g:aL)→Option (g.A→Option g.B)}
theorem B8(a b:Nat):B7 a b a=min a b∧B7 a b b=min a b:=by unfold B7;constructor<;>split<;>omega
structure FoI(d:aj)(rem:List (ab×Int))(g:List Nat):Prop where
 f:Fo g
 n:g.length=d.1.length
 c:∀i,i<d.1.length→cJ d (cC d i) (cC d (root g i))
 p:∀(z:ab) (i k:Nat),(z,(i:Int))∈gV d.1 0→(ao z,(k:Int))∈gV d.1 0→(z,(i:Int))∉rem→root g i=root g k
theorem vA{d:aj}(h:Wf d){z:ab}{a:Int}(hm:(z,a)∈gV d.1 0):∃i:Nat,i<d.1.length∧a=(i:Int)∧z∈ar d.1∧cm d z=some (cC d i):=by obtain⟨k,v,h1,h2,h3⟩:=Ir hm;rw[Nat.zero_add]at h2;have hv:=adj h1;refine⟨k,(ack.1 h1).1,h2,br.2 ⟨v,hv,h3⟩,?_⟩;rw[mC h1];exact jg h.rw hv h3
theorem Kt{d:aj}(h:Wf d){z:ab}(hz:z∈ar d.1):∃i:Nat,(z,(i:Int))∈gV d.1 0:=by obtain⟨v,hv,hx⟩:=br.1 hz;obtain⟨k,hk⟩:=adJ hv;have:=LK (i:=0) hk hx;rw[Nat.zero_add]at this;exact⟨k,this⟩
theorem LL{d:aj}(h:Wf d){z:ab}{a:Int}(hm:(z,a)∈gV d.1 0):iJ bm z (gV d.1 0)=some a:=by rw[RQ];refine Ip ?_ hm;rw[wW];exact h.rw.n
theorem FoI.same{d:aj}(h:Wf d){g:List Nat}(hg:FoI d [] g){a b:ID}(k:cJ d a b):∀i j,i<d.1.length→j<d.1.length→cC d i=a→cC d j=b→root g i=root g j:=by
 induction k with
 |refl=>intro i j hi hj h1 h2;rw[jh h.sv hi hj (h1.trans h2.symm)]
 |tail _ s ih =>
  intro i j hi hj h1 h2;obtain⟨z,hz,s1,s2⟩:=s;obtain⟨m,hm⟩:=Kt h hz;obtain⟨q,hq⟩:=Kt h (h.other hz);obtain⟨m',m1,m2,_,m3⟩:=vA h hm;obtain⟨q',q1,q2,_,q3⟩:=vA h hq;have em:m'=m:=by omega
  have eq:q'=q:=by omega
  subst em;subst eq;rw[s1]at m3;rw[s2]at q3;have r1:=ih i m' hi m1 h1 (ada m3).symm;have r2:=hg.p z m' q' hm hq (by simp);have ej:q'=j:=jh h.sv q1 hj ((ada q3).symm.trans h2.symm);rw[r1,r2,ej]
theorem FoI.can{d:aj}(h:Wf d){g:List Nat}(hg:FoI d [] g):Ii d (fI ((List.range d.1.length).map (root g))):=by
 have mM:∀i,i<d.1.length→(fI ((List.range d.1.length).map (root g))).getD i 0=((root g i:Nat):Int):=fun i hi=>by unfold fI;simp[List.getD,hi]
 refine⟨⟨by rw[B5];simp,fun i hi=>⟨root g i,LJ g i,mM i hi,hg.c i hi⟩⟩,fun i hi j hj k=>?_⟩;rw[mM i hi,hg.same h k i j hi hj rfl rfl];have:=LJ g j;omega
theorem Ul(hG:HG G){d:aj}(h:Wf d){g:List Nat}:∀(n i:Nat) (g':List Nat),i+n=d.1.length→Fo g'→g'.length=d.1.length→(∀j,root g' j=root g j) → LX G 256 gQ Tryz.f256 uX (aN Tryz.prog 256 3) ((((d.1.length:Nat):Int),((i:Int),())),((),(fI g',(fI ((List.range i).map (root g)),()))))=some ((fI ((List.range d.1.length).map (root g)),()),()):=by
 have SY:=h.nv;intro n
 induction n with
 |zero =>
  intro i g' hi h1 h2 h3;have e:i=d.1.length:=by omega
  subst e;refine au Ld ?_;exact af (decide_eq_false (show ¬(((d.1.length:Nat):Int)<((d.1.length:Nat):Int)) by omega)) rfl
 |succ n ih =>
  intro i g' hi h1 h2 h3;have aF:i<d.1.length:=by omega
  obtain⟨g2,s,e⟩:=RP hG g' i h1 (by omega);refine au Ld ?_;refine ae (aX aF) (aa e ?_);refine ae (fits (by show(fI _).length+1≤_;rw[B5];simp;omega)) ?_;have:=ih (i+1) g2 (by omega) s.f (by rw[s.n,h2]) (fun j=>(s.r j).trans (h3 j));have e2:fI ((List.range (i+1)).map (root g))=fI ((List.range i).map (root g))++[((root g' i:Nat):Int)]:=by rw[List.range_succ,h3 i];simp[fI]
  rw[e2,←aG aF (by omega)]at this;exact this
theorem Um(hG:HG G){d:aj}(h:Wf d):∀(n:Nat) (rem:List (ab×Int)) (g:List Nat) (o:Option (ab×Int)),rem.length=n→(∀e∈rem,e∈gV d.1 0)→FoI d rem g → LX G 256 gQ Tryz.f256 oR (aN Tryz.prog 256 2) ((gV d.1 0,()),((),(fI g,((o,rem),()))))=some ((labels d,()),()):=by
 intro n
 induction n with
 |zero =>
  intro rem g o hn hr hg;have e:rem=[]:=adh hn;subst e;refine au Lc ?_;refine ae rfl ?_;have:=Ul (G:=G) hG h (g:=g) d.1.length 0 g (by omega) hg.f hg.n (fun _=>rfl);rw[(hg.can h).uniq h (fa h)]at this;have e2:((fI g).length:Int)=((d.1.length:Nat):Int):=by rw[B5,hg.n]
  rw[←e2]at this;exact this
 |succ n ih =>
  intro rem g o hn hr hg;refine au Lc ?_;refine af (show rem.isEmpty=false by cases rem with|nil=>simp at hn|cons _ _=>rfl) ?_;refine kM (show 0<rem.length by omega) fun j hj=>?_;have hj':j<rem.length:=hj;refine aa (aci hj') ?_;have hm:=hr _ (adr hj');generalize he:rem[j]=e at hm;obtain⟨z,a⟩:=e;obtain⟨i,hi,ha,hz,haz⟩:=vA h hm;subst ha;obtain⟨k,hk⟩:=Kt h (h.other hz);obtain⟨k',vF,ek,_,hak⟩:=vA h hk;have ek':k'=k:=by omega
  subst ek';refine aa (H3 (hG _ _ rfl) z (h.side hz)) ?_;have mM:iJ bm (ao z) (gV d.1 0)=some (k':Int):=LL h hk;refine ae (show(iJ bm (ao z) (gV d.1 0)).isSome=true by rw[mM];rfl) ?_;obtain⟨g',h1,h2,h3,h4⟩:=ab5 hG g i k' hg.f (by rw[hg.n];exact hi) (by rw[hg.n];exact vF);refine aa (a:=((),(fI g',()))) (by
   have:(iJ bm (ao z) (gV d.1 0)).getD (0:Int)=(k':Int):=by rw[mM];rfl
   rw[←this]at h4;exact h4) ?_
  have ahz:Ig d (cC d i) (cC d k'):=⟨z,hz,haz,hak⟩;have cij:cJ d (cC d (root g i)) (cC d (root g k')):=((hg.c i hi).symm h).trans (ahz.conn.trans (hg.c k' vF));refine ih (rem.eraseIdx j) g' _ (by rw[List.length_eraseIdx,if_pos hj'];omega) (fun e he=>hr e (List.mem_of_mem_eraseIdx he)) ⟨h1,h2.trans hg.n,fun q hq=>?_,fun y p q hp hq hy=>?_⟩
  ·rw[h3 q];unfold B7
   split
   ·rename_i e;refine(hg.c q hq).trans ?_;rw[e];rcases Nat.le_total (root g i) (root g k') with hle|hle
    ·rw[Nat.max_eq_right hle,Nat.min_eq_left hle];exact cij.symm h
    ·rw[Nat.max_eq_left hle,Nat.min_eq_right hle];exact cij
   ·exact hg.c q hq
  ·rw[h3 p,h3 q];by_cases pN:(y,(p:Int))∈rem
   ·
    have e:(y,(p:Int))=(z,(i:Int)):=by apply Classical.byContradiction;intro ne;apply hy;rw[List.mem_eraseIdx_iff_getElem];obtain⟨t,ht,hte⟩:=adM pN;refine⟨t,ht,fun k=>?_,hte⟩;subst k;exact ne (hte.symm.trans he)
    have e1:y=z:=congrArg Prod.fst e;have e2:p=i:=by have:=congrArg Prod.snd e;simp at this;omega
    subst e1;subst e2;have h5:=LL h hq;rw[mM]at h5;have e3:q=k':=by have:=ada h5;omega
    subst e3;rw[(B8 _ _).1,(B8 _ _).2]
   ·rw[hg.p y p q hp hq pN]
theorem Ku(n:Nat):∀i,root (List.range n) i=i:=fun i=>by
 cases h:(List.range n)[i]? with
 |none=>exact lf h
 |some x =>
  have:x=i:=by rw[List.getElem?_range (by have:=(List.getElem?_eq_some_iff.1 h).1;simpa using this)]at h;exact(ada h).symm
  subst this;exact lg h
theorem ab7(hG:HG G)(d:aj)(h:Wf d):FX G 256 gQ ((d,()),())=some ((labels d,()),()):=by
 refine aq (hG _ _ rfl) aaq ?_;refine Uk (G:=G) h ?_ d.1.length 0 (by omega);refine Um hG h _ (gV d.1 0) (List.range d.1.length) none rfl (fun _ k=>k) ⟨fun i x hx=>?_,by simp,fun i hi=>?_,fun z i k h1 h2 h3=>absurd h1 h3⟩
 ·have:=(ack.1 hx).1;rw[List.getElem?_range (by simpa using this)]at hx;have:=ada hx;omega
 ·rw[Ku];exact .refl _
structure PG(G:(f:FuncId)→(g:aL)→Option (g.A→Option g.B)):Prop where
 h:HG G
 f:∀d,Wf d→FX G 240 xQ ((d,()),())=some ((cO d,()),())
 c:∀d,Wf d→FX G 241 xR ((d,()),())=some ((eF d,()),())
theorem ab8(hp:PG G)(d:aj)(h:Wf d):FX G 226 Hg ((d,()),())=some ((((d.1.length:Nat):Int),(((d.2.length:Nat):Int),(((ft d:Nat):Int),(eF d,())))),()):=by
 have hn:=h.nv;have hf:=vz h;have ha:al d.1≤d.1.length:=adI;refine aq (hp.h _ _ rfl) aaj ?_;refine aa (RN hp.h d.1 (by omega)) ?_;refine aa (hp.f d h) (aa (hp.c d h) ?_);have e:IntKind.wrap .i64 ((((cO d).length:Nat):Int)+((al d.1:Nat):Int))=((ft d:Nat):Int):=by rw[wrap_small (by omega) (by omega)];rfl
 exact congrArg (fun n:Int=>some ((((d.1.length:Nat):Int),(((d.2.length:Nat):Int),(n,(eF d,())))),())) e
theorem ab9(hp:PG G)(d:aj)(h:Wf d):FX G 204 Hc ((d,()),())=some ((jc d,()),()):=by
 have hn:=h.nv;have bq:=h.ne;have hf:=vz h;have ha:al d.1≤d.1.length:=adI;refine aq (hp.h _ _ rfl) ZY ?_;refine aa (ab8 hp d h) (af rfl ?_);have hr:=mD h (fa h);obtain⟨k,e1,e2⟩:=RI h hr;have ec:=rQ h;have Pu:(kB d (labels d)).length≤d.1.length:=by unfold kB;rw[List.length_map];refine adk (adv _ _) ?_;simp
 have Zl:ft d≤80+d.1.length:=by unfold ft;omega
 refine congrArg (fun n:Int=>some ((n,()),())) ?_;show IntKind.wrap .i64 (eF d-IntKind.wrap .i64 (Int.tdiv (IntKind.wrap .i64 ((IntKind.wrap .i64 (((d.1.length:Nat):Int)-((d.2.length:Nat):Int)))+((ft d:Nat):Int))) 2))=jc d;rw[e1,ec];have hk:(k:Int)≤1000:=by omega
 rw[wrap_small (n:=((d.1.length:Nat):Int)-((d.2.length:Nat):Int)) (by omega) (by omega)];rw[wrap_small (n:=((d.1.length:Nat):Int)-((d.2.length:Nat):Int)+((ft d:Nat):Int)) (by omega) (by omega)];have e3:((d.1.length:Nat):Int)-((d.2.length:Nat):Int)+((ft d:Nat):Int)=2*((((kB d (labels d)).length:Nat):Int)-(k:Int)):=by omega
 rw[e3,Int.mul_tdiv_cancel_left _ (by decide)];rw[wrap_small (n:=(((kB d (labels d)).length:Nat):Int)-(k:Int)) (by omega) (by omega)];rw[wrap_small (by omega) (by omega)];omega
theorem Un(hp:PG G):Ko G:=fun d h=>by refine aq (hp.h _ _ rfl) ZH ?_;refine aa (ab9 hp d h) ?_;refine congrArg (fun b:Bool=>some ((b,()),())) ?_;show(jc d==0)=decide (jc d=0);rw[Bool.eq_iff_iff];simp
end Go.Vs
