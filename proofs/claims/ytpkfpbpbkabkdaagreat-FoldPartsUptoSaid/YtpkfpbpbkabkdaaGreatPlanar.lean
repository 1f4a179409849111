/- What the program computes of -/
import Derived.Test.YtpkfpbpbkabkdaaGreatEuler
set_option linter.unusedVariables false
set_option linter.unusedSimpArgs false
namespace Go.Vs
open Go.Proofs
variable {G:(f:FuncId)→(g:aO)→Option (g.A→Option g.B)}
theorem Lg(w:ai)(r:List ai)(x:ID):aL (w::r) x=if w.1=x then some w else aL r x:=by unfold aL;rw[List.find?_cons];by_cases h:w.1=x<;>simp[h]
theorem Sh(hG:HG G)(l:List ai)(x:ID)(hl:l.length≤1073741824):FX G 110108 kI ((l,x,()),())=some (UT zV (aL l x),()):=by
 refine aA (hG _ _ rfl) Rb ?_;have loop:∀(n i:Nat),i+n=l.length→LX G 110108 kI Tryz.f108 mv (aZ Tryz.prog 108 0) ((l,(((l.length:Nat):Int),((i:Int),()))),(((x,()),(((0:Int),((0:Int),(([]:List ab),(e0,((0:Int),()))))),())),()))=some (UT zV (aL (l.drop i) x),()):=by
  intro n
  induction n with
  |zero =>intro i hi;refine aC BW ?_;refine af (decide_eq_false (show ¬((i:Int)<((l.length:Nat):Int)) by omega)) ?_;rw[List.drop_eq_nil_of_le (by omega)];rfl
  |succ n ih =>
   intro i hi;have aF:i<l.length:=by omega
   have agR:FX G 109 BG ((l[i],()),())=some ((l[i].1,()),()):=aA (hG _ _ rfl) Wu rfl;refine aC BW ?_;refine ae (bg aF) (aa (aR (abv aF)) ?_);refine aa agR ?_;rw[List.drop_eq_getElem_cons aF,Lg];by_cases he:l[i].1=x
   ·rw[if_pos he];exact ae ((Cc l[i].1 x).trans (decide_eq_true he)) rfl
   ·rw[if_neg he];refine af ((Cc l[i].1 x).trans (decide_eq_false he)) ?_;have:=ih (i+1) (by omega);rw[←aK aF hl]at this;exact this
 have:=loop l.length 0 (by omega);rw[List.drop_zero]at this;exact this
theorem ab9(hG:HG G)(d:ak)(x:ID)(hs:Sm d):FX G 74 HY ((d,x,()),())=some (UT zV (cd d x),()):=by
 have hv:=hs.v;refine aA (hG _ _ rfl) aaM ?_;refine aa (Sh hG d.1 x (by omega)) ?_;unfold cd
 cases hf:aL d.1 x with
 |none=>exact aa (X8 (hG _ _ rfl) [] (by simp)) rfl
 |some v=>exact aa (X8 (hG _ _ rfl) v.2.1 (hs.r v (eO hf))) rfl
theorem Si(w:ai)(r:List ai)(x:ab):Gc (w::r) x=if x∈w.2.1 then some w.1 else Gc r x:=by unfold Gc;rw[List.find?_cons];by_cases h:x∈w.2.1<;>simp[h]
theorem WQ(hG:HG G)(d:ak)(x:ab)(hs:Sm d):FX G 139 vI ((d,x,()),())=some (UT zI (ed d x),()):=by
 have hv:=hs.v;refine aA (hG _ _ rfl) aaZ ?_;have loop:∀(n i:Nat),i+n=d.1.length→LX G 139 vI Tryz.f139 vS (aZ Tryz.prog 139 0) ((d.1,(((d.1.length:Nat):Int),((i:Int),()))),(((x,()),((zI,()),())),()))=some (UT zI (Gc (d.1.drop i) x),()):=by
  intro n
  induction n with
  |zero =>intro i hi;refine aC L8 ?_;refine af (decide_eq_false (show ¬((i:Int)<((d.1.length:Nat):Int)) by omega)) ?_;rw[List.drop_eq_nil_of_le (by omega)];rfl
  |succ n ih =>
   intro i hi;have aF:i<d.1.length:=by omega
   refine aC L8 ?_;refine ae (bg aF) (aa (aR (abv aF)) ?_);refine aa (EJ hG d.1[i].2.1 x (by have:=hs.r _ (acC aF);omega)) ?_;rw[List.drop_eq_getElem_cons aF,Si];by_cases he:x∈d.1[i].2.1
   ·rw[if_pos he];exact ae (decide_eq_true he) rfl
   ·rw[if_neg he];refine af (decide_eq_false he) ?_;have:=ih (i+1) (by omega);rw[←aK aF (by omega)]at this;exact this
 have:=loop d.1.length 0 (by omega);rw[List.drop_zero]at this;exact this
def Lh(x:ab):List aM→Int→Int
 |[],_ => -1
 |g::r,i=>if g.1=x then i else Lh x r (i+1)
theorem I8(x:ab):∀(l:List aM) (i:Nat),(Lh x l i = -1∧mF l x=none)∨∃k g,Lh x l (i:Int)=((i+k:Nat):Int)∧l[k]? = some g∧mF l x=some g.2
 |[],i=>.inl ⟨rfl,rfl⟩
 |g::r,i=>by
  rw[Lh,qd];by_cases h:g.1=x
  ·rw[if_pos h,if_pos h];exact .inr ⟨0,g,by simp,by simp,rfl⟩
  ·rw[if_neg h,if_neg h];have e:(i:Int)+1=((i+1:Nat):Int):=by omega
   rw[e];rcases I8 x r (i+1) with⟨h1,h2⟩|⟨k,q,h1,h2,h3⟩
   ·exact .inl ⟨h1,h2⟩
   ·exact .inr ⟨k+1,q,by rw[h1];congr 1;omega,by simpa using h2,h3⟩
theorem Sj(hG:HG G)(l:List aM)(x:ab)(hl:l.length≤1073741824):FX G 246244 jB ((l,()),((x,()),()))=some ((Lh x l 0,()),((x,()),())):=by
 refine aA (hG _ _ rfl) Rd ?_;have loop:∀(n i:Nat),i+n=l.length→LX G 246244 jB Tryz.f244 j4 (aZ Tryz.prog 244 0) ((l,(((l.length:Nat):Int),((i:Int),()))),(((x,()),()),()))=some ((Lh x (l.drop i) i,()),((x,()),())):=by
  intro n
  induction n with
  |zero =>intro i hi;refine aC BY ?_;refine af (decide_eq_false (show ¬((i:Int)<((l.length:Nat):Int)) by omega)) ?_;rw[List.drop_eq_nil_of_le (by omega)];rfl
  |succ n ih =>
   intro i hi;have aF:i<l.length:=by omega
   have agS:FX G 245 H6 ((l[i],()),((x.1.1,(x.1.2,(x.2,()))),()))=some (((((l[i].1.1.1==x.1.1)&&(l[i].1.1.2==x.1.2))&&(l[i].1.2==x.2)),()),((x.1.1,(x.1.2,(x.2,()))),())) :=aA (hG _ _ rfl) aa4 rfl;refine aC BY ?_;refine ae (bg aF) (aa (aR (abv aF)) ?_);refine aa agS ?_;rw[List.drop_eq_getElem_cons aF,Lh];by_cases he:l[i].1=x
   ·rw[if_pos he];exact ae ((Dq l[i].1 x).trans (decide_eq_true he)) rfl
   ·rw[if_neg he];refine af ((Dq l[i].1 x).trans (decide_eq_false he)) ?_;have:=ih (i+1) (by omega);have e:=aK aF hl;show LX G 246244 jB Tryz.f244 j4 (aZ Tryz.prog 244 0) ((l,(((l.length:Nat):Int),(IntKind.wrap .i64 ((i:Int)+1),()))),(((x,()),()),()))=some ((Lh x (l.drop (i+1)) ((i+1:Nat):Int),()),((x,()),()));rw[e];exact this
 have:=loop l.length 0 (by omega);rw[List.drop_zero]at this;exact this
theorem aca(hG:HG G)(l:List aM)(x:ab)(hl:l.length≤1073741824):FX G 230 H4 ((l,x,()),())=some (UT zD (mF l x),()):=by
 refine aA (hG _ _ rfl) aa0 ?_;refine aa (Sj hG l x hl) ?_;rcases I8 x l 0 with⟨h1,h2⟩|⟨k,g,h1,h2,h3⟩
 ·have h1:Lh x l 0 = -1:=h1;rw[h2];exact ae (decide_eq_true (show Lh x l 0<0 by omega)) rfl
 ·have h1:Lh x l 0=(k:Int):=by have:Lh x l ((0:Nat):Int)=Lh x l 0:=rfl;rw[←this,h1];congr 1;omega
  rw[h3];refine af (decide_eq_false (show ¬Lh x l 0<0 by omega)) ?_;refine aa (show bU l (Lh x l 0)=some g by rw[h1];exact aR h2) ?_;rfl
theorem acb(hG:HG G)(s:StateT)(x:ab)(hs:Sm s.1)(hg:s.2.length≤50000000):FX G 212 yN ((s,x,()),())=some ((resolve s x,()),()):=by
 refine aA (hG _ _ rfl) aaN ?_;have hw:IntKind.wrap .i64 (((s.2.length:Nat):Int)+1)=((s.2.length+1:Nat):Int):=by rw[wrap_small (by omega) (by omega)];rfl
 have loop:∀(n i:Nat) (y:ab),i+n=s.2.length+1→LX G 212 yN Tryz.f212 vO (aZ Tryz.prog 212 0) (((IntKind.wrap .i64 (((s.2.length:Nat):Int)+1)),((i:Int),())),(((s,()),((y,()),((zD,()),()))),()))=some ((res s.1 s.2 n y,()),()):=by
  intro n
  induction n with
  |zero =>intro i y hi;refine aC L4 ?_;exact af (decide_eq_false (show ¬((i:Int)<IntKind.wrap .i64 (((s.2.length:Nat):Int)+1)) by rw[hw];omega)) rfl
  |succ n ih =>
   intro i y hi;refine aC L4 ?_;refine ae (decide_eq_true (show((i:Int)<IntKind.wrap .i64 (((s.2.length:Nat):Int)+1)) by rw[hw];omega)) ?_;refine aa (WQ hG s.1 y hs) ?_;rw[res];have h1:(UT zI (ed s.1 y)).2.1=(ed s.1 y).isSome:=Mq _ _
   cases ha:(ed s.1 y).isSome
   ·rw[if_neg (by simp)];refine af (h1.trans ha) ?_;refine aa (aca hG s.2 y (by omega)) ?_
    cases hf:mF s.2 y with
    |none=>exact ae rfl rfl
    |some z =>
     refine af rfl ?_;have:=ih (i+1) z (by omega);have e:IntKind.wrap .i64 ((i:Int)+1)=((i+1:Nat):Int):=by rw[wrap_small (by omega) (by omega)];rfl
     rw[←e]at this;exact this
   ·rw[if_pos rfl];exact ae (h1.trans ha) rfl
 exact loop (s.2.length+1) 0 x (by omega)
theorem acd(hG:HG G)(s:StateT)(c:uP)(hs:Sm s.1)(hg:s.2.length≤50000000):FX G 180 HV ((s,c,()),())=some (bX s c,()):=by
 refine aA (hG _ _ rfl) aay ?_;refine aa (ab9 hG s.1 c.1 hs) ?_;unfold bX
 cases hf:cd s.1 c.1 with
 |none=>exact ae rfl rfl
 |some v =>
  refine af rfl ?_;refine aa (acb hG s c.2 hs hg) ?_;refine aa (EJ hG v.2.1 (resolve s c.2) (by have:=hs.r v (eO hf);omega)) ?_;show _=some (((c.1,Gd s c v),((0:Int),())),());unfold Gd;by_cases hm:resolve s c.2∈v.2.1
  ·rw[if_pos hm];exact bc (decide_eq_true hm) rfl
  ·rw[if_neg hm];exact bc (decide_eq_false hm) rfl
def rN(G:(f:FuncId)→(g:aO)→Option (g.A→Option g.B)):Prop:=∀d,Wf d→FX G 172 yL ((d,()),())=some ((decide (bK d=0),()),())
theorem MD{l:List ai}{e:List aq}{c:uP}{v:ai}(hs:bY l)(hf:aL l c.1=some v)(x:ab):l.set (bB l c.1) (v.1,(qK v.2.1 c.2 x,v.2.2))=(cr (l,e) c x).1:=by rw[K4 hs (cZ hs hf)];have hi:=iz hf;have hm:=eO hf;unfold cr Vs.cf;rw[←hi,j8 (d:=(l,e)) hs hm]
theorem CG{d:ak}(h:Wf d):pW d.1 d.2=true:=by unfold pW;have h1:=h.nv;have h2:=h.ne;simp only[Bool.and_eq_true,decide_eq_true_eq,List.all_eq_true];exact⟨by omega,by omega,fun v hv=>by have:=h.xQ v hv;omega⟩
theorem U9(hG:HG G)(hp:rN G)(o:aY):eQ G o:=by
 intro s h hm Py;have JZ:=h.d.nv;have aW:=h.d.ne;have hn:=h.n;have U6:=h.d.small;have br:=RQ hm;have start:∀(e:Int) (w:aQ),cm 154 pX Tryz.f154 (FX G) (LX G 154 pX Tryz.f154) ((o,()),(aG s,()))=some ((e,()),(w,()))→FX G 154 pX ((o,()),(aG s,()))=some ((e,()),(w,())):=fun e w a =>aA (hG _ _ rfl) a rfl;have f110:=WH hG (aG s) (bu o) h.d.se (by show s.1.2.length≤_;omega);unfold rH
 cases hf:(aV s.1.2 (bu o)).isSome with
 |true =>have e1:tT (aG s) (bu o)=(12,aG s):=if_pos hf;rw[e1]at f110;refine⟨12,aG s,start _ _ ((XT).trans (ae (CG h.d) (aa f110 (ae rfl rfl)))),?_⟩;rw[if_pos (show(nR s.1 (bu o)).isSome=true from hf)];rfl
 |false =>
 rw[if_neg (show ¬(nR s.1 (bu o)).isSome=true by show ¬(aV s.1.2 (bu o)).isSome=true;rw[hf];simp)];by_cases h40:40≤s.1.2.length
 ·have e1:tT (aG s) (bu o)=(3,aG s):=(if_neg (show ¬(aV s.1.2 (bu o)).isSome=true by rw[hf];simp)).trans (if_pos h40);rw[e1]at f110;refine⟨3,aG s,start _ _ ((XT).trans (ae (CG h.d) (aa f110 (ae rfl rfl)))),?_⟩;rw[if_pos h40];rfl
 rw[if_neg h40];obtain⟨E,hE⟩:∃E,E=fg (bu o,(e0,0)) s.1.2:=⟨_,rfl⟩;have e1:tT (aG s) (bu o)=(0,(s.1.1,(E,(s.2,())))):=by rw[hE];exact(if_neg (show ¬(aV s.1.2 (bu o)).isSome=true by rw[hf];simp)).trans (if_neg h40)
 rw[e1]at f110;obtain⟨x,hx⟩:∃x:ab,x=(bu o,0):=⟨_,rfl⟩;obtain⟨y,hy⟩:∃y:ab,y=(bu o,1):=⟨_,rfl⟩;have f111:FX G 179 BB ((bu o,()),())=some ((x,y,()),()):=by rw[hx,hy];exact aA (hG _ _ rfl) Wt rfl
 have f112:=fun c:uP=>acd hG s c h.d.sm (by omega);have go:∀(e:Int) (w:aQ),LX G 154 pX Tryz.f154 mu (aZ Tryz.prog 154 0) (((2:Int),((0:Int),())),(((s.1.1,(E,(s.2,()))),((s,()),((x,()),()))),([x,y],([oA o,oB o],()))))=some ((e,()),(w,()))→FX G 154 pX ((o,()),(aG s,()))=some ((e,()),(w,())):=fun e w a =>start _ _ ((XT).trans (ae (CG h.d) (aa f110 (af rfl (aa f111 a)))));by_cases hA:(bX s (oA o)).2.1=0
 case neg =>
  rw[if_pos hA];have agT:bX s (oA o)=(zC,(13,())):=by
   unfold bX at hA ⊢
   cases hv:cd s.1 (oA o).1 with
   |none=>rfl
   |some v=>rw[hv]at hA;exact absurd rfl hA
  refine⟨13,(s.1.1,(E,(s.2,()))),go _ _ ?_,rfl⟩;refine aC xm ?_;refine ae rfl (ae rfl (aa (a:=oA o) rfl (aa (f112 (oA o)) ?_)));rw[agT];exact ae rfl rfl
 rw[if_neg (fun k=>k hA)];obtain⟨va,ca⟩:=qe hA;obtain⟨cA,hcA⟩:∃c:uP,c=(bX s (oA o)).1:=⟨_,rfl⟩;have eA:bX s (oA o)=(cA,(0,())):=by
  rw[hcA];have:(bX s (oA o)).2=(0,()):=by have h1:(bX s (oA o)).2=((bX s (oA o)).2.1,()):=rfl;rw[h1,hA]
  rw[←this]
 have cAv:(aL s.1.1 cA.1).isSome=true:=by rw[hcA,ca];exact va
 obtain⟨v1,vj⟩:=acv.1 cAv;have Yo:=eO vj;obtain⟨d1,K3⟩:∃d1:ak,d1=cr (s.1.1,E) cA x:=⟨_,rfl⟩;have agV:s.1.1.set (bB s.1.1 cA.1) (v1.1,(qK v1.2.1 cA.2 x,v1.2.2))=d1.1:=by rw[K3];exact MD h.d.sv vj x
 have WR:bY d1.1:=by rw[K3];exact h.d.sv.re _ _
 have hl1:=(abr.1 (cZ h.d.sv vj)).1;have WS:∀v∈d1.1,v.2.1.length≤50000000:=fun v hv=>by
  rw[K3]at hv;obtain⟨w,hw,rfl⟩:=acx.1 (show v∈s.1.1.map (xu cA.1 (qK (cM (s.1.1,E) cA.1) cA.2 x)) from hv);have h1:=h.d.xQ w hw;unfold xu
  split
  ·have h2:=yT (cM (s.1.1,E) cA.1) cA.2 x;have h3:(cM (s.1.1,E) cA.1).length≤80:=by rw[←iz vj,j8 (d:=(s.1.1,E)) h.d.sv Yo];exact h.d.xQ v1 Yo
   show(qK (cM (s.1.1,E) cA.1) cA.2 x).length≤50000000;omega
  ·omega
 have d1l:d1.1.length=s.1.1.length:=by rw[K3];exact fj _ _ _
 have WT:∀(e:Int) (w:aQ),LX G 154 pX Tryz.f154 mu (aZ Tryz.prog 154 0) (((2:Int),((1:Int),())),(((d1.1,(E,(s.2,()))),((s,()),((x,()),()))),([x,y],([oA o,oB o],()))))=some ((e,()),(w,()))→FX G 154 pX ((o,()),(aG s,()))=some ((e,()),(w,())):=fun e w a=>by
  refine go _ _ ?_;refine aC xm ?_;refine ae rfl (ae rfl (aa (a:=oA o) rfl (aa (f112 (oA o)) ?_)));rw[eA];refine af rfl (af rfl ?_);refine aa (qz hG (s.1.1,(E,(s.2,()))) cA.1 h.d.sv U6.n) ?_;refine ae (cY (kS _) (bg hl1)) (aa (cZ h.d.sv vj) ?_);refine ae rfl (aa (a:=x) rfl ?_);refine aa (RO hG v1.2.1 cA.2 x (U6.r v1 Yo)) ?_;refine aa (cZ h.d.sv vj) ?_;have key:∀a1:List ai,a1=d1.1→LX G 154 pX Tryz.f154 mu (aZ Tryz.prog 154 0) (((2:Int),((1:Int),())),(((a1,(E,(s.2,()))),((s,()),((x,()),()))),([x,y],([oA o,oB o],()))))=some ((e,()),(w,())):=fun a1 E2=>by subst E2;exact a
  exact key _ agV
 by_cases hB:(bX s (oB o)).2.1=0
 case neg =>
  rw[if_pos hB];have agW:bX s (oB o)=(zC,(13,())):=by
   unfold bX at hB ⊢
   cases hv:cd s.1 (oB o).1 with
   |none=>rfl
   |some v=>rw[hv]at hB;exact absurd rfl hB
  refine⟨13,(d1.1,(E,(s.2,()))),WT _ _ ?_,rfl⟩;refine aC xm ?_;refine ae rfl (ae rfl (aa (a:=oB o) rfl (aa (f112 (oB o)) ?_)));rw[agW];exact ae rfl rfl
 rw[if_neg (fun k=>k hB)];obtain⟨vb,cb⟩:=qe hB;obtain⟨cB,hcB⟩:∃c:uP,c=if(cd s.1 (oB o).1).isSome=true∧(oB o).2=(bu o,0) then oB o else(bX s (oB o)).1:=⟨_,rfl⟩
 have eB:bX s (oB o)=((bX s (oB o)).1,(0,())):=by
  have:(bX s (oB o)).2=(0,()):=by have h1:(bX s (oB o)).2=((bX s (oB o)).2.1,()):=rfl;rw[h1,hB]
  rw[←this]
 have cB1:cB.1=(oB o).1:=by rw[hcB];split;rfl;exact cb
 have cBv:(aL d1.1 cB.1).isSome=true:=by rw[K3];exact wu _ (by rw[cB1];exact vb)
 obtain⟨v2,yj⟩:=acv.1 cBv;have acg:=eO yj;have zm:=(abr.1 (cZ WR yj)).1;obtain⟨d2,Ul⟩:∃d2:ak,d2=cr d1 cB y:=⟨_,rfl⟩;have Va:d1.1.set (bB d1.1 cB.1) (v2.1,(qK v2.2.1 cB.2 y,v2.2.2))=d2.1:=by rw[Ul];exact MD (e:=d1.2) WR yj y
 have WU:oP s o=d2:=by rw[Ul,K3,hcA,hcB,hx,hy,hE];rfl
 have hE2:d2.2=E:=by rw[Ul,K3];rfl
 have hwf:Wf d2:=by
  rw[←WU];unfold oP;have hn0:aV s.1.2 (bu o)=none:=by simpa using hf
  refine h.d.link br hn0 h40 (by rw[ca];exact va) ?_;rw[←hcB,cB1];exact vb
 have last:∀(e:Int) (w:aQ),LX G 154 pX Tryz.f154 mu (aZ Tryz.prog 154 0) (((2:Int),((2:Int),())),(((d2.1,(E,(s.2,()))),((s,()),((x,()),()))),([x,y],([oA o,oB o],()))))=some ((e,()),(w,()))→FX G 154 pX ((o,()),(aG s,()))=some ((e,()),(w,())):=fun e w a=>by
  refine WT _ _ ?_;refine aC xm ?_;refine ae rfl (ae rfl (aa (a:=oB o) rfl (aa (f112 (oB o)) ?_)));rw[eB];have key:∀a2:List ai,a2=d2.1→LX G 154 pX Tryz.f154 mu (aZ Tryz.prog 154 0) (((2:Int),((2:Int),())),(((a2,(E,(s.2,()))),((s,()),((x,()),()))),([x,y],([oA o,oB o],()))))=some ((e,()),(w,())):=fun a2 Dy=>by subst Dy;exact a
  refine af rfl (ae rfl ?_);have qF:=Dq (oB o).2 x;by_cases Zb:(oB o).2=x
  ·have ecB:cB=oB o:=by rw[hcB];exact if_pos ⟨vb,Zb.trans hx⟩
   refine ae (qF.trans (decide_eq_true Zb)) ?_;rw[ecB]at yj zm Va;refine aa (qz hG (d1.1,(E,(s.2,()))) (oB o).1 WR (by show d1.1.length≤_;omega)) ?_;refine ae (cY (kS _) (bg zm)) (aa (cZ WR yj) ?_);refine ae rfl (aa (a:=y) rfl ?_);refine aa (RO hG v2.2.1 (oB o).2 y (WS v2 acg)) ?_;refine aa (cZ WR yj) ?_;exact key _ Va
  ·have ecB:cB=(bX s (oB o)).1:=by rw[hcB];exact if_neg (fun k=>Zb (k.2.trans hx.symm))
   refine af (qF.trans (decide_eq_false Zb)) ?_;rw[ecB]at yj zm Va;refine aa (qz hG (d1.1,(E,(s.2,()))) (bX s (oB o)).1.1 WR (by show d1.1.length≤_;omega)) ?_;refine ae (cY (kS _) (bg zm)) (aa (cZ WR yj) ?_);refine ae rfl (aa (a:=y) rfl ?_);refine aa (RO hG v2.2.1 (bX s (oB o)).1.2 y (WS v2 acg)) ?_;refine aa (cZ WR yj) ?_;exact key _ Va
 have f114:=hp d2 hwf;rw[WU];have e2:(d2.1,E)=d2:=by rw[←hE2]
 by_cases hg:bK d2=0
 ·rw[if_neg (fun k=>k hg)];refine⟨0,(d2.1,(E,(s.2,()))),last _ _ ?_,?_⟩
  ·refine aC xm ?_;refine af rfl ?_;have key:∀q:ak,q=d2→((FX G 172 yL ((q,()),())).bind fun(FU:((Bool×Unit)×Unit))=>cond (not FU.1.1) (some (((15:Int),()),((d2.1,(E,(s.2,()))),()))) (some (((0:Int),()),((d2.1,(E,(s.2,()))),()))))=some (((0:Int),()),((d2.1,(E,(s.2,()))),())):=fun q hq=>by subst hq;exact aa f114 (bc (decide_eq_true hg) rfl)
   exact key _ e2
  ·show(Ae (d2.1,(E,(s.2,()))),((0:Int),()))=((d2,s.2),(0,()));show(((d2.1,E),s.2),((0:Int),()))=((d2,s.2),(0,()));rw[e2]
 ·rw[if_pos hg];refine⟨15,(d2.1,(E,(s.2,()))),last _ _ ?_,rfl⟩;refine aC xm ?_;refine af rfl ?_;have key:∀q:ak,q=d2→((FX G 172 yL ((q,()),())).bind fun(FU:((Bool×Unit)×Unit))=>cond (not FU.1.1) (some (((15:Int),()),((d2.1,(E,(s.2,()))),()))) (some (((0:Int),()),((d2.1,(E,(s.2,()))),()))))=some (((15:Int),()),((d2.1,(E,(s.2,()))),())):=fun q hq=>by subst hq;exact aa f114 (bc (decide_eq_false hg) rfl)
  exact key _ e2
theorem ach(hG:HG G)(row:List ab)(d:ab)(hl:row.length≤100000000):FX G 261 H9 ((row,d,()),())=some (TN (jc row d 1),()):=by
 refine aA (hG _ _ rfl) abc ?_;have key:FX G 167 BH ((row,(d,((1:Int),()))),())=some (TN (jc row d 1),()):=by
  refine aA (hG _ _ rfl) Wv ?_;refine aa (Cj (hG _ _ rfl) row d (by omega)) ?_;unfold jc;by_cases hd:d∈row
  ·rw[if_pos hd];obtain⟨k,h1,h2,h3⟩:=jE hd;have aF:=(abr.1 h2).1;refine af (decide_eq_false (show ¬idx d row 0<0 by omega)) ?_;refine af (RA hd) ?_;have KH:IntKind.wrap .i64 (idx d row 0+1)=((k+1:Nat):Int):=by rw[h1,wrap_small (by omega) (by omega)];rfl
   have Yb:(k+1)%row.length<row.length:=Nat.mod_lt _ (by omega);have hx:=abv Yb;refine aa (show bU row (Int.tmod (IntKind.wrap .i64 (idx d row 0+1)) ((row.length:Nat):Int))=some row[(k+1)%row.length] by rw[KH,IA];exact aR hx) ?_;rw[h1,Int.toNat_natCast,hx];rfl
  ·rw[if_neg hd];exact ae (decide_eq_true (wh.2 hd)) rfl
 refine aa key ?_;rfl
def I9(x:ab):List ai→Option ab
 |[]=>none
 |v::r=>if x∈v.2.1 then jc v.2.1 x 1 else I9 x r
theorem ME{l:List ai}(h:Rw l){v:ai}{x:ab}(hv:v∈l)(hx:x∈v.2.1):∀r,(∀u∈r,u∈l)→v∈r→I9 x r=jc v.2.1 x 1
 |[],_,k=>by cases k
 |u::r,hs,k=>by
  rw[I9];by_cases hu:x∈u.2.1
  ·rw[if_pos hu,h.one hv (hs u List.mem_cons_self) hx hu]
  ·rw[if_neg hu];rcases abw.1 k with e|k
   ·rw[e]at hx;exact absurd hx hu
   ·exact ME h hv hx r (fun w hw=>hs w (abq _ hw)) k
theorem E3{x:ab}:∀{l:List ai},x∉aj l→I9 x l=none
 |[],_=>rfl
 |v::r,h=>by rw[eg,List.mem_append]at h;rw[I9,if_neg (fun k=>h (.inl k))];exact E3 fun k=>h (.inr k)
theorem Li{d:ak}(h:Rw d.1)(x:ab):I9 x d.1=ln d x:=by
 by_cases hx:x∈aj d.1
 ·obtain⟨v,hv,lg⟩:=aT.1 hx;rw[Cw h hv lg];exact ME h hv lg d.1 (fun _ k=>k) hv
 ·rw[E3 hx];unfold ln ed;rw[IL hx]
theorem aci(hG:HG G)(d:ak)(x:ab)(hs:Sm d)(h:Rw d.1):FX G 258 yQ ((d,x,()),())=some (TN (ln d x),()):=by
 have hv:=hs.v;rw[←Li h x];refine aA (hG _ _ rfl) aa9 ?_;have loop:∀(n i:Nat),i+n=d.1.length→LX G 258 yQ Tryz.f258 vX (aZ Tryz.prog 258 0) ((d.1,(((d.1.length:Nat):Int),((i:Int),()))),(((x,()),((zD,()),())),()))=some (TN (I9 x (d.1.drop i)),()):=by
  intro n
  induction n with
  |zero =>intro i hi;refine aC Me ?_;refine af (decide_eq_false (show ¬((i:Int)<((d.1.length:Nat):Int)) by omega)) ?_;rw[List.drop_eq_nil_of_le (by omega)];rfl
  |succ n ih =>
   intro i hi;have aF:i<d.1.length:=by omega
   refine aC Me ?_;refine ae (bg aF) (aa (aR (abv aF)) ?_);refine aa (ach hG d.1[i].2.1 x (by have:=hs.r _ (acC aF);omega)) ?_;rw[List.drop_eq_getElem_cons aF,I9];by_cases he:x∈d.1[i].2.1
   ·rw[if_pos he];unfold jc;rw[if_pos he];obtain⟨k,h1,h2,h3⟩:=jE he;have hl:=(abr.1 h2).1;have hm:((idx x d.1[i].2.1 0).toNat+1)%d.1[i].2.1.length<d.1[i].2.1.length:=Nat.mod_lt _ (by omega);rw[List.getElem?_eq_getElem hm];exact ae rfl rfl
   ·rw[if_neg he];unfold jc;rw[if_neg he];refine af rfl ?_;have:=ih (i+1) (by omega);rw[←aK aF (by omega)]at this;exact this
 have:=loop d.1.length 0 (by omega);rw[List.drop_zero]at this;exact this
theorem at_mem{d:ak}{x:ab}(h:(ed d x).isSome=true):x∈aj d.1:=by
 apply Classical.byContradiction;intro k;unfold ed at h;rw[IL k]at h
 cases h
theorem acj(hG:HG G)(d:ak)(x:ab)(h:Wf d):FX G 255 Ey ((d,x,()),())=some (TN (Pw d x),()):=by
 have hs:=h.sm;refine aA (hG _ _ rfl) aa7 ?_;refine aa (WQ hG d x hs) ?_;have h1:(UT zI (ed d x)).2.1=(ed d x).isSome:=Mq _ _;unfold Pw
 cases ha:(ed d x).isSome
 ·rw[if_neg (by simp)];exact bc (h1.trans ha) rfl
 ·rw[if_pos rfl];refine bc (h1.trans ha) ?_;refine aa (IS (hG _ _ rfl) x (h.side (at_mem ha))) ?_;exact aa (aci hG d (ag x) hs h.rw) rfl
theorem ack(hG:HG G)(d:ak)(hs:Sm d):FX G 249 vJ ((d,()),())=some ((jF d.2,()),()):=by
 have he:=hs.e;refine aA (hG _ _ rfl) aa6 ?_;have loop:∀(n i:Nat) (out:List ab),i+n=d.2.length→out.length=2*i→LX G 249 vJ Tryz.f249 vT (aZ Tryz.prog 249 0) ((d.2,(((d.2.length:Nat):Int),((i:Int),()))),((),(out,())))=some ((out++jF (d.2.drop i),()),()):=by
  intro n
  induction n with
  |zero =>intro i out hi ho;refine aC L9 ?_;refine af (decide_eq_false (show ¬((i:Int)<((d.2.length:Nat):Int)) by omega)) ?_;rw[List.drop_eq_nil_of_le (by omega)];show some ((out,()),())=some ((out++[],()),());rw[List.append_nil]
  |succ n ih =>
   intro i out hi ho;have aF:i<d.2.length:=by omega
   refine aC L9 ?_;refine ae (bg aF) (aa (aR (abv aF)) ?_);refine aa (IS (hG _ _ rfl) (d.2[i].1,0) (.inl rfl)) ?_;refine ae (fits (by show out.length+2≤_;omega)) ?_;have:=ih (i+1) (out++[(d.2[i].1,0),(d.2[i].1,1)]) (by omega) (by simp[ho];omega);rw[List.drop_eq_getElem_cons aF];rw[←aK aF (by omega),List.append_assoc]at this;exact this
 exact loop d.2.length 0 [] (by omega) rfl
theorem Sk(hG:HG G)(l:List ai)(hl:l.length≤50000000):FX G 240238 kJ ((l,()),())=some ((((al l:Nat):Int),()),()):=by
 refine aA (hG _ _ rfl) Re ?_;have loop:∀(n i m:Nat),i+n=l.length→m≤i→LX G 240238 kJ Tryz.f238 j5 (aZ Tryz.prog 238 0) (((m:Int),(l,(((l.length:Nat):Int),((i:Int),())))),((),()))=some ((((m+al (l.drop i):Nat):Int),()),()):=by
  intro n
  induction n with
  |zero =>intro i m hi hm;refine aC BZ ?_;refine af (decide_eq_false (show ¬((i:Int)<((l.length:Nat):Int)) by omega)) ?_;rw[List.drop_eq_nil_of_le (by omega)];rfl
  |succ n ih =>
   intro i m hi hm;have aF:i<l.length:=by omega
   have agY:FX G 239 H7 ((l[i],()),())=some ((l[i].2.1.isEmpty,()),()):=by
    refine aA (hG _ _ rfl) aa5 ?_;have:(((l[i].2.1.length:Nat):Int)==0)=l[i].2.1.isEmpty:=by cases l[i].2.1<;>simp;omega
    exact congrArg (fun b:Bool=>some ((b,()),())) this
   refine aC BZ ?_;refine ae (bg aF) (aa (aR (abv aF)) ?_);refine aa agY ?_;rw[List.drop_eq_getElem_cons aF];unfold al;rw[List.countP_cons]
   cases hb:l[i].2.1.isEmpty
   ·refine af rfl ?_;have:=ih (i+1) m (by omega) (by omega);rw[←aK aF (by omega)]at this;exact this
   ·refine ae rfl ?_;have:=ih (i+1) (m+1) (by omega) (by omega);rw[←aK aF (by omega),←aK (i:=m) (n:=l.length) (by omega) (by omega)]at this;refine this.trans ?_;refine congrArg (fun q:Nat=>some ((((q:Nat):Int),()),())) ?_;unfold al;simp;omega
 have:=loop l.length 0 0 (by omega) (by omega);rw[List.drop_zero,Nat.zero_add]at this;exact this
def Fo(g:List Nat):Prop:=∀(i x:Nat),g[i]? = some x→x≤i
def root(g:List Nat)(i:Nat):Nat :=match g[i]? with
 |some x=>if h:x<i then root g x else i
 |none=>i
termination_by i
theorem dA{g:List Nat}{i x:Nat}(h:g[i]? = some x):root g i=if x<i then root g x else i:=by rw[root,h];simp
theorem lM{g:List Nat}{i:Nat}(h:g[i]? = none):root g i=i:=by rw[root,h]
theorem MF(g:List Nat):∀i,root g i≤i:=by
 intro i
 induction i using Nat.strongRecOn with
 |_ i ih =>
  cases h:g[i]? with
  |none=>rw[lM h];exact acn _
  |some x =>
   rw[dA h]
   split
   ·rename_i hx;have:=ih x hx;omega
   ·exact acn _
theorem Ja{g:List Nat}(hf:Fo g):∀i,i<g.length→g[root g i]? = some (root g i):=by
 intro i
 induction i using Nat.strongRecOn with
 |_ i ih =>
  intro hi;have h:=abv hi;rw[dA h]
  split
  ·rename_i hx;exact ih _ hx (by omega)
  ·have:=hf i _ h;rw[h];congr 1;omega
theorem lN{g:List Nat}{i:Nat}(h:g[i]? = some i):root g i=i:=by rw[dA h,if_neg (by omega)]
theorem Fo.set{g:List Nat}(hf:Fo g){i y:Nat}(h:y≤i):Fo (g.set i y):=fun j x hj=>by
 rw[List.getElem?_set]at hj
 split at hj
 ·rename_i e;subst e
  split at hj
  ·cases hj;exact h
  ·cases hj
 ·exact hf j x hj
theorem Lj{g:List Nat}(hf:Fo g){i x y:Nat}(hi:g[i]? = some x)(hx:g[x]? = some y)(aF:x<i):∀j,root (g.set i y) j=root g j:=by
 have hyx:=hf x y hx;have o5:=(abr.1 hi).1;intro j
 induction j using Nat.strongRecOn with
 |_ j ih =>
  by_cases e:j=i
  ·subst e;have h1:(g.set j y)[j]? = some y:=by rw[List.getElem?_set];simp[o5]
   rw[dA h1,if_pos (by omega),ih y (by omega),dA hi,if_pos aF,dA hx]
   split
   ·rfl
   ·have:y=x:=by omega
    subst this;exact lN hx
  ·have h1:(g.set i y)[j]? = g[j]? := by rw[List.getElem?_set,if_neg (fun k=>e k.symm)]
   cases h:g[j]? with
   |none=>rw[lM h,lM (h1.trans h)]
   |some z =>
    rw[dA h,dA (h1.trans h)]
    split
    ·rename_i hz;exact ih z hz
    ·rfl
theorem O3{g:List Nat}{a b:Nat}(ha:g[a]? = some a)(hb:g[b]? = some b):∀j,root (g.set (max a b) (min a b)) j=if root g j=max a b then min a b else root g j:=by
 have hm:g[max a b]? = some (max a b):=by rcases Nat.le_total a b with h|h<;>simp[Nat.max_eq_right,Nat.max_eq_left,h,ha,hb]
 have hn:g[min a b]? = some (min a b):=by rcases Nat.le_total a b with h|h<;>simp[Nat.min_eq_right,Nat.min_eq_left,h,ha,hb]
 have hml:=(abr.1 hm).1;have hle:min a b≤max a b:=by omega
 generalize max a b=M at *;generalize min a b=m at *;have aF:∀j,(g.set M m)[j]? = if j=M then some m else g[j]? := fun j=>by
  rw[List.getElem?_set];by_cases e:M=j
  ·subst e;simp[hml]
  ·rw[if_neg e,if_neg (fun k=>e k.symm)]
 intro j
 induction j using Nat.strongRecOn with
 |_ j ih =>
  by_cases ej:j=M
  ·subst ej;have h1:(g.set j m)[j]? = some m:=by rw[aF,if_pos rfl]
   rw[dA h1,lN hm,if_pos rfl];by_cases e:m<j
   ·rw[if_pos e,ih m e,lN hn,if_neg (by omega)]
   ·rw[if_neg e];omega
  ·have h1:(g.set M m)[j]? = g[j]? := by rw[aF,if_neg ej]
   cases h:g[j]? with
   |none=>rw[lM h,lM (h1.trans h),if_neg ej]
   |some z =>
    rw[dA h,dA (h1.trans h)];by_cases hz:z<j
    ·rw[if_pos hz,if_pos hz];exact ih z hz
    ·rw[if_neg hz,if_neg hz,if_neg ej]
def fI(g:List Nat):List Int:=g.map fun n=>((n:Nat):Int)
theorem CH(g:List Nat):(fI g).length=g.length:=by simp[fI]
theorem uM{g:List Nat}{i x:Nat}(h:g[i]? = some x):(fI g)[Int.toNat (i:Int)]? = some (x:Int):=by simp[fI,h]
theorem Sn(g:List Nat)(i x:Nat):(fI g).set (Int.toNat (i:Int)) (x:Int)=fI (g.set i x):=by simp[fI,List.map_set]
theorem CI{g:List Nat}{i:Nat}(h:i<g.length):(decide ((0:Int)≤(i:Int))&&decide ((i:Int)<(((fI g).length:Nat):Int)))=true:=by rw[CH];exact cY (kS i) (bg h)
structure E4(g g':List Nat):Prop where
 f:Fo g'
 n:g'.length=g.length
 r:∀j,root g' j=root g j
theorem E4.trans{a b c:List Nat}(h:E4 a b)(k:E4 b c):E4 a c:=⟨k.f,k.n.trans h.n,fun j=>(k.r j).trans (h.r j)⟩
theorem So(hG:HG G)(g:List Nat)(i:Nat)(hf:Fo g)(hi:i<g.length):∃g',E4 g g'∧FX G 260 rz (((i:Int),()),(fI g,()))=some ((((root g i:Nat):Int),()),(fI g',())):=by
 have loop:∀(i:Nat) (g:List Nat),Fo g→i<g.length→∃g',E4 g g'∧LX G 260 rz Tryz.f260 sF (aZ Tryz.prog 260 0) (((i:Int),()),((),(fI g,())))=some ((((root g i:Nat):Int),()),(fI g',())):=by
  intro i
  induction i using Nat.strongRecOn with
  |_ i ih =>
   intro g hf hi;have h:=abv hi;generalize g[i]=x at h;have hxi:=hf i x h;by_cases hx:x<i
   ·have h2:=abv (show x<g.length by omega);generalize g[x]=y at h2;have hyx:=hf x y h2;have hs:=Lj hf h h2 hx;have hf2:Fo (g.set i y):=hf.set (by omega);obtain⟨g',h3,h4⟩:=ih y (by omega) (g.set i y) hf2 (by rw[List.length_set];omega);refine⟨g',⟨h3.f,by rw[h3.n,List.length_set],fun j=>(h3.r j).trans (hs j)⟩,?_⟩;refine aC Mf ?_;refine ae (CI hi) (aa (uM h) ?_);refine ae (show(((x:Nat):Int) != (i:Int))=true by rw[bne_iff_ne];omega) ?_;refine ae (CI hi) (aa (uM h) ?_);refine ae (CI (show x<g.length by omega)) (aa (uM h2) ?_);refine ae (CI hi) (aa (uM h) ?_);have agZ:=Sn g i y;have key:∀f:List Int,f=fI (g.set i y)→cond ((decide ((0:Int)≤(i:Int)))&&(decide ((i:Int)<(((List.length f):Nat):Int)))) (((f)[(Int.toNat (i:Int))]?).bind fun(y5:Int)=>LX G 260 rz Tryz.f260 sF (aZ Tryz.prog 260 0) ((y5,()),((),(f,())))) none=some ((((root g i:Nat):Int),()),(fI g',())):=fun f hf=>by
     subst hf;refine ae (CI (by rw[List.length_set];exact hi)) (aa (uM (x:=y) (by rw[List.getElem?_set];simp[hi])) ?_);rw[h4,hs y,dA h,if_pos hx,dA h2];by_cases hy:y<x
     ·rw[if_pos hy]
     ·have:y=x:=by omega
      subst this;rw[if_neg (by omega),lN h2]
    exact key _ agZ
   ·have:x=i:=by omega
    subst this;refine⟨g,⟨hf,rfl,fun _=>rfl⟩,?_⟩;refine aC Mf ?_;refine ae (CI hi) (aa (uM h) ?_);rw[lN h];exact af (by simp) rfl
 obtain⟨g',h1,h2⟩:=loop i g hf hi;exact⟨g',h1,aA (hG _ _ rfl) abb h2⟩
def CJ(a b r:Nat):Nat:=if r=max a b then min a b else r
theorem acm(hG:HG G)(g:List Nat)(i k:Nat)(hf:Fo g)(hi:i<g.length)(hk:k<g.length):∃g',Fo g'∧g'.length=g.length∧(∀j,root g' j=CJ (root g i) (root g k) (root g j))∧FX G 259 H8 (((i:Int),((k:Int),())),(fI g,()))=some ((),(fI g',())):=by
 obtain⟨g1,h1,e1⟩:=So hG g i hf hi;obtain⟨g2,h2,e2⟩:=So hG g1 k h1.f (by rw[h1.n];exact hk);rw[h1.r k]at e2;have hs:=h1.trans h2;have ra:g2[root g i]? = some (root g i):=by have:=Ja hs.f i (by rw[hs.n];exact hi);rw[hs.r i]at this;exact this
 have rb:g2[root g k]? = some (root g k):=by have:=Ja hs.f k (by rw[hs.n];exact hk);rw[hs.r k]at this;exact this
 have hal:=(abr.1 ra).1;have hbl:=(abr.1 rb).1;have hm:max (root g i) (root g k)<g2.length:=by omega
 refine⟨g2.set (max (root g i) (root g k)) (min (root g i) (root g k)),hs.f.set (by omega),by rw[List.length_set,hs.n],fun j=>by rw[O3 ra rb j,hs.r j];rfl,?_⟩;refine aA (hG _ _ rfl) aba ?_;refine aa e1 (aa e2 ?_);have em:(max ((root g i:Nat):Int) ((root g k:Nat):Int):Int)=((max (root g i) (root g k):Nat):Int):=by omega
 have en:(min ((root g i:Nat):Int) ((root g k:Nat):Int):Int)=((min (root g i) (root g k):Nat):Int):=by omega
 have key:∀m n:Int,m=((max (root g i) (root g k):Nat):Int)→n=((min (root g i) (root g k):Nat):Int)→cond ((decide ((0:Int)≤m))&&(decide (m<(((List.length (fI g2)):Nat):Int)))) (((fI g2)[(Int.toNat m)]?).bind fun(y3:Int)=>(some ((),((List.set (fI g2) (Int.toNat m) n),())):Option (Unit×((List Int)×Unit)))) none=some ((),(fI (g2.set (max (root g i) (root g k)) (min (root g i) (root g k))),())):=fun m n Ui JY=>by subst Ui JY;refine ae (CI hm) (aa (uM (abv hm)) ?_);rw[Sn]
 exact key _ _ em en
theorem CL{α:Type}(x:ab)(es:List (ab×α)):qQ bL x es=es.findIdx? fun e=>decide (e.1=x):=by
 show List.findIdx? (fun e:ab×α=>((x.1.1==e.1.1.1)&&(x.1.2==e.1.1.2))&&(x.2==e.1.2)) es=_;congr 1;funext e;rw[Dq x e.1];by_cases h:x=e.1
 ·rw[decide_eq_true h,decide_eq_true h.symm]
 ·rw[decide_eq_false h,decide_eq_false (fun k=>h k.symm)]
def eR{β α:Type}[DecidableEq β](x:β):List (β×α)→Option α
 |[]=>none
 |e::r=>if e.1=x then some e.2 else eR x r
theorem Lk{β α:Type}[DecidableEq β](x:β):∀es:List (β×α),((es.findIdx? fun e=>decide (e.1=x)).bind fun i=>(es[i]?).map (·.2))=eR x es
 |[]=>rfl
 |e::r=>by
  have ih:=Lk x r;rw[List.findIdx?_cons,eR];by_cases h:e.1=x
  ·rw[if_pos (decide_eq_true h),if_pos h];rfl
  ·rw[if_neg (by simpa using h),if_neg h,←ih]
   cases r.findIdx? fun e=>decide (e.1=x)<;>simp
theorem Ll{α:Type}(x:ab)(es:List (ab×α)):fW bL x es=eR x es:=by have:=Lk x es;rw[←CL]at this;exact this
theorem Jb{α:Type}{x:ab}(v:α){es:List (ab×α)}(h:x∉es.map (·.1)):jn bL x v es=es++[(x,v)]:=by
 have e:qQ bL x es=none:=by rw[CL,List.findIdx?_eq_none_iff];intro q hq;exact decide_eq_false fun k=>h (acx.2 ⟨q,hq,k⟩)
 unfold jn
 split
 ·rename_i i k;rw[e]at k;cases k
 ·rfl
theorem Jc{β α:Type}[DecidableEq β]{x:β}{v:α}:∀{es:List (β×α)},(es.map (·.1)).Nodup→(x,v)∈es→eR x es=some v
 |[],_,h=>by cases h
 |e::r,hn,h=>by
  simp only[List.map_cons,List.nodup_cons]at hn;rw[eR];rcases abw.1 h with e1|h
  ·subst e1;rw[if_pos rfl]
  ·rw[if_neg (fun k=>hn.1 (by rw[k];exact List.mem_map.2 ⟨_,h,rfl⟩))];exact Jc hn.2 h
def iA:List ai→Nat→List (ab×Int)
 |[],_=>[]
 |v::r,i=>v.2.1.map (fun x=>(x,(i:Int)))++iA r (i+1)
theorem xT:∀(l:List ai) (i:Nat),(iA l i).map (·.1)=aj l
 |[],_=>rfl
 |v::r,i=>by
  have e:(v.2.1.map fun x=>(x,(i:Int))).map (·.1)=v.2.1:=by rw[List.map_map];exact List.map_id _
  rw[iA,eg,List.map_append,xT r,e]
theorem Jd:∀(a b:List ai) (i:Nat),iA (a++b) i=iA a i++iA b (i+a.length)
 |[],b,i=>rfl
 |v::r,b,i=>by rw[List.cons_append,iA,iA,Jd r b,List.append_assoc];congr 3;simp;omega
theorem Je{x:ab}{a:Int}:∀{l:List ai} {i:Nat},(x,a)∈iA l i→∃k v,l[k]? = some v∧a=((i+k:Nat):Int)∧x∈v.2.1
 |[],i,h=>by cases h
 |v::r,i,h=>by
  rw[iA]at h;rcases ab0.1 h with h|h
  ·obtain⟨y,hy,e⟩:=acx.1 h
   cases e
   exact⟨0,v,rfl,rfl,hy⟩
  ·obtain⟨k,u,h1,h2,h3⟩:=Je h;exact⟨k+1,u,by simpa using h1,by rw[h2];congr 1;omega,h3⟩
theorem MG{x:ab}:∀{l:List ai} {i k:Nat} {v:ai},l[k]? = some v→x∈v.2.1→(x,((i+k:Nat):Int))∈iA l i
 |v::r,i,0,u,h,hx=>by simp at h;subst h;rw[iA];exact abK _ (acx.2 ⟨x,hx,rfl⟩)
 |v::r,i,k+1,u,h,hx=>by
  rw[iA];refine abx _ ?_;have:=MG (i:=i+1) (k:=k) (by simpa using h) hx
  rwa [show i+1+k=i+(k+1) by omega]at this
theorem Sp(i:Nat):fI (List.range i)++[(i:Int)]=fI (List.range (i+1)):=by rw[List.range_succ];simp[fI]
section
variable {d:ak} {y:ic.B}
theorem Vb(h:Wf d){i:Nat}(hi:i<d.1.length){f:List Int}{nn:Int} (next:LX G 256 ic Tryz.f256 sE (aZ Tryz.prog 256 0) ((d.1,(nn,((IntKind.wrap .i64 ((i:Int)+1)),()))),((),(f,(iA (d.1.take (i+1)) 0,()))))=some y):∀(n j:Nat) (es:List (ab×Int)),j+n=d.1[i].2.1.length→es=iA (d.1.take i) 0++(d.1[i].2.1.take j).map (fun x=>(x,(i:Int))) → LX G 256 ic Tryz.f256 vU (aZ Tryz.prog 256 1) (((i:Int),(d.1,(nn,((i:Int),(d.1[i].2.1,(((d.1[i].2.1.length:Nat):Int),((j:Int),()))))))),((),(f,(es,()))))=some y:=by
 have hr:=h.xQ d.1[i] (acC hi);have et:d.1.take (i+1)=d.1.take i++[d.1[i]]:=(List.take_append_getElem hi).symm;have ev:iA (d.1.take (i+1)) 0=iA (d.1.take i) 0++d.1[i].2.1.map (fun x=>(x,(i:Int))):=by
  rw[et,Jd];have:(d.1.take i).length=i:=by rw[List.length_take];omega
  rw[this,Nat.zero_add];congr 1;show d.1[i].2.1.map (fun x=>(x,(i:Int)))++[]=_;rw[List.append_nil]
 have nd:(aj (d.1.take i)++d.1[i].2.1).Nodup:=by
  have h1:=h.rw.n;rw[←List.take_append_drop (i+1) d.1,et,jf,jf]at h1;have e2:aj [d.1[i]]=d.1[i].2.1:=by rw[eg];exact List.append_nil _
  rw[e2]at h1;exact(adK.1 h1).1
 intro n
 induction n with
 |zero =>intro j es hj he;refine aC Mb ?_;refine af (decide_eq_false (show ¬((j:Int)<((d.1[i].2.1.length:Nat):Int)) by omega)) ?_;have e:d.1[i].2.1.take j=d.1[i].2.1:=List.take_of_length_le (by omega);rw[e,←ev]at he;subst he;exact next
 |succ n ih =>
  intro j es hj he;have aF:j<d.1[i].2.1.length:=by omega
  refine aC Mb ?_;refine ae (bg aF) (aa (aR (abv aF)) ?_);have vf:d.1[i].2.1[j]∉es.map (·.1):=by
   have e3:((d.1[i].2.1.take j).map fun x=>(x,(i:Int))).map (·.1)=d.1[i].2.1.take j:=by rw[List.map_map];exact List.map_id _
   rw[he,List.map_append,xT,e3,List.mem_append];rintro(k|k)
   ·exact(adK.1 nd).2.2 _ k _ (acC aF) rfl
   ·obtain⟨q,hq,he⟩:=adY k;have hq1:q<j:=by rw[List.length_take]at hq;omega
    rw[List.getElem_take]at he;have:=(List.getElem_inj (adK.1 nd).2.1).1 he;omega
  have:=ih (j+1) (jn bL d.1[i].2.1[j] (i:Int) es) (by omega) (by rw[Jb _ vf,he,←List.take_append_getElem aF,List.map_append,List.append_assoc];rfl);rw[←aK aF (by omega)]at this;exact this
theorem Vc(h:Wf d) (next:LX G 256 ic Tryz.f256 pY (aZ Tryz.prog 256 2) ((iA d.1 0,()),((),(fI (List.range d.1.length),((none,iA d.1 0),()))))=some y):∀(n i:Nat),i+n=d.1.length → LX G 256 ic Tryz.f256 sE (aZ Tryz.prog 256 0) ((d.1,(((d.1.length:Nat):Int),((i:Int),()))),((),(fI (List.range i),(iA (d.1.take i) 0,()))))=some y:=by
 have hn:=h.nv;intro n
 induction n with
 |zero =>
  intro i hi;have e:i=d.1.length:=by omega
  subst e;refine aC Ma ?_;refine af (decide_eq_false (show ¬(((d.1.length:Nat):Int)<((d.1.length:Nat):Int)) by omega)) ?_;rw[List.take_length];exact next
 |succ n ih =>
  intro i hi;have aF:i<d.1.length:=by omega
  refine aC Ma ?_;refine ae (bg aF) (aa (aR (abv aF)) ?_);refine ae (fits (by show(fI (List.range i)).length+1≤_;rw[CH];simp;omega)) ?_;have nx:=ih (i+1) (by omega);rw[←aK aF (by omega),←Sp]at nx;exact Vb (G:=G) h aF nx d.1[i].2.1.length 0 _ (by omega) (by simp)
end
end Go.Vs
namespace Go.Vs
open Go.Proofs
variable {G:(f:FuncId)→(g:aO)→Option (g.A→Option g.B)}
theorem CM(a b:Nat):CJ a b a=min a b∧CJ a b b=min a b:=by unfold CJ;constructor<;>split<;>omega
structure FoI(d:ak)(rem:List (ab×Int))(g:List Nat):Prop where
 f:Fo g
 n:g.length=d.1.length
 c:∀i,i<d.1.length→cg d (cF d i) (cF d (root g i))
 p:∀(z:ab) (i k:Nat),(z,(i:Int))∈iA d.1 0→(ag z,(k:Int))∈iA d.1 0→(z,(i:Int))∉rem→root g i=root g k
theorem wz{d:ak}(h:Wf d){z:ab}{a:Int}(hm:(z,a)∈iA d.1 0):∃i:Nat,i<d.1.length∧a=(i:Int)∧z∈aj d.1∧ed d z=some (cF d i):=by obtain⟨k,v,h1,h2,h3⟩:=Je hm;rw[Nat.zero_add]at h2;have hv:=acy h1;refine⟨k,(abr.1 h1).1,h2,aT.2 ⟨v,hv,h3⟩,?_⟩;rw[nw h1];exact dS h.rw hv h3
theorem Lm{d:ak}(h:Wf d){z:ab}(hz:z∈aj d.1):∃i:Nat,(z,(i:Int))∈iA d.1 0:=by obtain⟨v,hv,hx⟩:=aT.1 hz;obtain⟨k,hk⟩:=adX hv;have:=MG (i:=0) hk hx;rw[Nat.zero_add]at this;exact⟨k,this⟩
theorem MH{d:ak}(h:Wf d){z:ab}{a:Int}(hm:(z,a)∈iA d.1 0):fW bL z (iA d.1 0)=some a:=by rw[Ll];refine Jc ?_ hm;rw[xT];exact h.rw.n
theorem FoI.same{d:ak}(h:Wf d){g:List Nat}(hg:FoI d [] g){a b:ID}(k:cg d a b):∀i j,i<d.1.length→j<d.1.length→cF d i=a→cF d j=b→root g i=root g j:=by
 induction k with
 |refl=>intro i j hi hj h1 h2;rw[jM h.sv hi hj (h1.trans h2.symm)]
 |tail _ s ih =>
  intro i j hi hj h1 h2;obtain⟨z,hz,s1,s2⟩:=s;obtain⟨m,hm⟩:=Lm h hz;obtain⟨q,hq⟩:=Lm h (h.other hz);obtain⟨m',m1,m2,_,m3⟩:=wz h hm;obtain⟨q',q1,q2,_,q3⟩:=wz h hq;have em:m'=m:=by omega
  have eq:q'=q:=by omega
  subst em;subst eq;rw[s1]at m3;rw[s2]at q3;have r1:=ih i m' hi m1 h1 (ab5 m3).symm;have r2:=hg.p z m' q' hm hq (by simp);have ej:q'=j:=jM h.sv q1 hj ((ab5 q3).symm.trans h2.symm);rw[r1,r2,ej]
theorem FoI.can{d:ak}(h:Wf d){g:List Nat}(hg:FoI d [] g):I5 d (fI ((List.range d.1.length).map (root g))):=by
 have nJ:∀i,i<d.1.length→(fI ((List.range d.1.length).map (root g))).getD i 0=((root g i:Nat):Int):=fun i hi=>by unfold fI;simp[List.getD,hi]
 refine⟨⟨by rw[CH];simp,fun i hi=>⟨root g i,MF g i,nJ i hi,hg.c i hi⟩⟩,fun i hi j hj k=>?_⟩;rw[nJ i hi,hg.same h k i j hi hj rfl rfl];have:=MF g j;omega
theorem Vd(hG:HG G){d:ak}(h:Wf d){g:List Nat}:∀(n i:Nat) (g':List Nat),i+n=d.1.length→Fo g'→g'.length=d.1.length→(∀j,root g' j=root g j) → LX G 256 ic Tryz.f256 vW (aZ Tryz.prog 256 3) ((((d.1.length:Nat):Int),((i:Int),())),((),(fI g',(fI ((List.range i).map (root g)),()))))=some ((fI ((List.range d.1.length).map (root g)),()),()):=by
 have JZ:=h.nv;intro n
 induction n with
 |zero =>
  intro i g' hi h1 h2 h3;have e:i=d.1.length:=by omega
  subst e;refine aC Md ?_;exact af (decide_eq_false (show ¬(((d.1.length:Nat):Int)<((d.1.length:Nat):Int)) by omega)) rfl
 |succ n ih =>
  intro i g' hi h1 h2 h3;have aF:i<d.1.length:=by omega
  obtain⟨g2,s,e⟩:=So hG g' i h1 (by omega);refine aC Md ?_;refine ae (bg aF) (aa e ?_);refine ae (fits (by show(fI _).length+1≤_;rw[CH];simp;omega)) ?_;have:=ih (i+1) g2 (by omega) s.f (by rw[s.n,h2]) (fun j=>(s.r j).trans (h3 j));have e2:fI ((List.range (i+1)).map (root g))=fI ((List.range i).map (root g))++[((root g' i:Nat):Int)]:=by rw[List.range_succ,h3 i];simp[fI]
  rw[e2,←aK aF (by omega)]at this;exact this
theorem Ve(hG:HG G){d:ak}(h:Wf d):∀(n:Nat) (rem:List (ab×Int)) (g:List Nat) (o:Option (ab×Int)),rem.length=n→(∀e∈rem,e∈iA d.1 0)→FoI d rem g → LX G 256 ic Tryz.f256 pY (aZ Tryz.prog 256 2) ((iA d.1 0,()),((),(fI g,((o,rem),()))))=some ((labels d,()),()):=by
 intro n
 induction n with
 |zero =>
  intro rem g o hn hr hg;have e:rem=[]:=ace hn;subst e;refine aC Mc ?_;refine ae rfl ?_;have:=Vd (G:=G) hG h (g:=g) d.1.length 0 g (by omega) hg.f hg.n (fun _=>rfl);rw[(hg.can h).uniq h (ep h)]at this;have e2:((fI g).length:Int)=((d.1.length:Nat):Int):=by rw[CH,hg.n]
  rw[←e2]at this;exact this
 |succ n ih =>
  intro rem g o hn hr hg;refine aC Mc ?_;refine af (show rem.isEmpty=false by cases rem with|nil=>simp at hn|cons _ _=>rfl) ?_;refine np (show 0<rem.length by omega) fun j hj=>?_;have hj':j<rem.length:=hj;refine aa (abv hj') ?_;have hm:=hr _ (acC hj');generalize he:rem[j]=e at hm;obtain⟨z,a⟩:=e;obtain⟨i,hi,ha,hz,haz⟩:=wz h hm;subst ha;obtain⟨k,hk⟩:=Lm h (h.other hz);obtain⟨k',wK,ek,_,hak⟩:=wz h hk;have ek':k'=k:=by omega
  subst ek';refine aa (IS (hG _ _ rfl) z (h.side hz)) ?_;have nJ:fW bL (ag z) (iA d.1 0)=some (k':Int):=MH h hk;refine ae (show(fW bL (ag z) (iA d.1 0)).isSome=true by rw[nJ];rfl) ?_;obtain⟨g',h1,h2,h3,h4⟩:=acm hG g i k' hg.f (by rw[hg.n];exact hi) (by rw[hg.n];exact wK);refine aa (a:=((),(fI g',()))) (by
   have:(fW bL (ag z) (iA d.1 0)).getD (0:Int)=(k':Int):=by rw[nJ];rfl
   rw[←this]at h4;exact h4) ?_
  have ag1:y0 d (cF d i) (cF d k'):=⟨z,hz,haz,hak⟩;have cij:cg d (cF d (root g i)) (cF d (root g k')):=((hg.c i hi).symm h).trans (ag1.conn.trans (hg.c k' wK));refine ih (rem.eraseIdx j) g' _ (by rw[List.length_eraseIdx,if_pos hj'];omega) (fun e he=>hr e (List.mem_of_mem_eraseIdx he)) ⟨h1,h2.trans hg.n,fun q hq=>?_,fun y p q hp hq hy=>?_⟩
  ·rw[h3 q];unfold CJ
   split
   ·rename_i e;refine(hg.c q hq).trans ?_;rw[e];rcases Nat.le_total (root g i) (root g k') with hle|hle
    ·rw[Nat.max_eq_right hle,Nat.min_eq_left hle];exact cij.symm h
    ·rw[Nat.max_eq_left hle,Nat.min_eq_right hle];exact cij
   ·exact hg.c q hq
  ·rw[h3 p,h3 q];by_cases qH:(y,(p:Int))∈rem
   ·
    have e:(y,(p:Int))=(z,(i:Int)):=by apply Classical.byContradiction;intro ne;apply hy;rw[List.mem_eraseIdx_iff_getElem];obtain⟨t,ht,hte⟩:=adY qH;refine⟨t,ht,fun k=>?_,hte⟩;subst k;exact ne (hte.symm.trans he)
    have e1:y=z:=congrArg Prod.fst e;have e2:p=i:=by have:=congrArg Prod.snd e;simp at this;omega
    subst e1;subst e2;have h5:=MH h hq;rw[nJ]at h5;have e3:q=k':=by have:=ab5 h5;omega
    subst e3;rw[(CM _ _).1,(CM _ _).2]
   ·rw[hg.p y p q hp hq qH]
theorem Ln(n:Nat):∀i,root (List.range n) i=i:=fun i=>by
 cases h:(List.range n)[i]? with
 |none=>exact lM h
 |some x =>
  have:x=i:=by rw[List.getElem?_range (by have:=(List.getElem?_eq_some_iff.1 h).1;simpa using this)]at h;exact(ab5 h).symm
  subst this;exact lN h
theorem aco(hG:HG G)(d:ak)(h:Wf d):FX G 256 ic ((d,()),())=some ((labels d,()),()):=by
 refine aA (hG _ _ rfl) aa8 ?_;refine Vc (G:=G) h ?_ d.1.length 0 (by omega);refine Ve hG h _ (iA d.1 0) (List.range d.1.length) none rfl (fun _ k=>k) ⟨fun i x hx=>?_,by simp,fun i hi=>?_,fun z i k h1 h2 h3=>absurd h1 h3⟩
 ·have:=(abr.1 hx).1;rw[List.getElem?_range (by simpa using this)]at hx;have:=ab5 hx;omega
 ·rw[Ln];exact .refl _
structure PG(G:(f:FuncId)→(g:aO)→Option (g.A→Option g.B)):Prop where
 h:HG G
 f:∀d,Wf d→FX G 240 yO ((d,()),())=some ((bR d,()),())
 c:∀d,Wf d→FX G 241 yP ((d,()),())=some ((gX d,()),())
theorem acp(hp:PG G)(d:ak)(h:Wf d):FX G 226 H5 ((d,()),())=some ((((d.1.length:Nat):Int),(((d.2.length:Nat):Int),(((ft d:Nat):Int),(gX d,())))),()):=by
 have hn:=h.nv;have hf:=wy h;have ha:al d.1≤d.1.length:=adV;refine aA (hp.h _ _ rfl) aa1 ?_;refine aa (Sk hp.h d.1 (by omega)) ?_;refine aa (hp.f d h) (aa (hp.c d h) ?_);have e:IntKind.wrap .i64 ((((bR d).length:Nat):Int)+((al d.1:Nat):Int))=((ft d:Nat):Int):=by rw[wrap_small (by omega) (by omega)];rfl
 exact congrArg (fun n:Int=>some ((((d.1.length:Nat):Int),(((d.2.length:Nat):Int),(n,(gX d,())))),())) e
theorem acq(hp:PG G)(d:ak)(h:Wf d):FX G 204 HZ ((d,()),())=some ((bK d,()),()):=by
 have hn:=h.nv;have aW:=h.ne;have hf:=wy h;have ha:al d.1≤d.1.length:=adV;refine aA (hp.h _ _ rfl) aaR ?_;refine aa (acp hp d h) (af rfl ?_);have hr:=kX h (ep h);obtain⟨k,e1,e2⟩:=CF h hr;have ec:=tc h;have N2:(lh d (labels d)).length≤d.1.length:=by unfold lh;rw[List.length_map];refine acB (adI _ _) ?_;simp
 have hft:ft d≤80+d.1.length:=by unfold ft;omega
 refine congrArg (fun n:Int=>some ((n,()),())) ?_;show IntKind.wrap .i64 (gX d-IntKind.wrap .i64 (Int.tdiv (IntKind.wrap .i64 ((IntKind.wrap .i64 (((d.1.length:Nat):Int)-((d.2.length:Nat):Int)))+((ft d:Nat):Int))) 2))=bK d;rw[e1,ec];have hk:(k:Int)≤1000:=by omega
 rw[wrap_small (n:=((d.1.length:Nat):Int)-((d.2.length:Nat):Int)) (by omega) (by omega)];rw[wrap_small (n:=((d.1.length:Nat):Int)-((d.2.length:Nat):Int)+((ft d:Nat):Int)) (by omega) (by omega)];have e3:((d.1.length:Nat):Int)-((d.2.length:Nat):Int)+((ft d:Nat):Int)=2*((((lh d (labels d)).length:Nat):Int)-(k:Int)):=by omega
 rw[e3,Int.mul_tdiv_cancel_left _ (by decide)];rw[wrap_small (n:=(((lh d (labels d)).length:Nat):Int)-(k:Int)) (by omega) (by omega)];rw[wrap_small (by omega) (by omega)];omega
theorem Vf(hp:PG G):rN G:=fun d h=>by refine aA (hp.h _ _ rfl) aaA ?_;refine aa (acq hp d h) ?_;refine congrArg (fun b:Bool=>some ((b,()),())) ?_;show(bK d==0)=decide (bK d=0);rw[Bool.eq_iff_iff];simp
end Go.Vs
