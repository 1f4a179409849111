/- What the program computes of -/
import Derived.Test.YtpkfpbpbkabkdaaGreatEuler
set_option linter.unusedVariables false
set_option linter.unusedSimpArgs false
namespace Go.Vs
open Go.Proofs
variable {G:(f:FuncId)→(g:aX)→Option (g.A→Option g.B)}
theorem OQ(w:ai)(r:List ai)(x:ID):aO (w::r) x=if w.1=x then some w else aO r x:=by unfold aO;rw[List.find?_cons];by_cases h:w.1=x<;>simp[h]
theorem WZ(hG:HG G)(l:List ai)(x:ID)(hl:l.length≤1073741824):FX G 110108 lY ((l,x,()),())=some (ia zV (aO l x),()):=by
 refine aC (hG _ _ rfl) VP ?_;have loop:∀(n i:Nat),i+n=l.length→LX G 110108 lY Tryz.f108 og (aY Tryz.prog 108 0) ((l,(((l.length:Nat):Int),((i:Int),()))),(((x,()),(((0:Int),((0:Int),(([]:List ab),(e0,((0:Int),()))))),())),()))=some (ia zV (aO (l.drop i) x),()):=by
  intro n
  induction n with
  |zero =>intro i hi;refine aB EM ?_;refine ah (decide_eq_false (show ¬((i:Int)<((l.length:Nat):Int)) by omega)) ?_;rw[List.drop_eq_nil_of_le (by omega)];rfl
  |succ n ih =>
   intro i hi;have aK:i<l.length:=by omega
   have am4:FX G 109 Lq ((l[i],()),())=some ((l[i].1,()),()):=aC (hG _ _ rfl) afq rfl;refine aB EM ?_;refine ae (bj aK) (aa (aT (aba aK)) ?_);refine aa am4 ?_;rw[List.drop_eq_getElem_cons aK,OQ];by_cases he:l[i].1=x
   ·rw[if_pos he];exact ae ((iL l[i].1 x).trans (decide_eq_true he)) rfl
   ·rw[if_neg he];refine ah ((iL l[i].1 x).trans (decide_eq_false he)) ?_;have:=ih (i+1) (by omega);rw[←aN aK hl]at this;exact this
 have:=loop l.length 0 (by omega);rw[List.drop_zero]at this;exact this
theorem Mx(hG:HG G)(d:ak)(x:ID)(hs:Sm d):FX G 74 vY ((d,x,()),())=some (ia zV (aG d x),()):=by
 have hv:=hs.v;refine aC (hG _ _ rfl) afd ?_;refine aa (WZ hG d.1 x (by omega)) ?_;unfold aG
 cases hf:aO d.1 x with
 |none=>exact aa (acv (hG _ _ rfl) [] (by simp)) rfl
 |some v=>exact aa (acv (hG _ _ rfl) v.2.1 (hs.r v (dw hf))) rfl
theorem W0(w:ai)(r:List ai)(x:ab):E2 (w::r) x=if x∈w.2.1 then some w.1 else E2 r x:=by unfold E2;rw[List.find?_cons];by_cases h:x∈w.2.1<;>simp[h]
theorem W9(hG:HG G)(d:ak)(x:ab)(hs:Sm d):FX G 139 vZ ((d,x,()),())=some (ia zI (bM d x),()):=by
 have hv:=hs.v;refine aC (hG _ _ rfl) afr ?_;have loop:∀(n i:Nat),i+n=d.1.length→LX G 139 vZ Tryz.f139 yv (aY Tryz.prog 139 0) ((d.1,(((d.1.length:Nat):Int),((i:Int),()))),(((x,()),((zI,()),())),()))=some (ia zI (E2 (d.1.drop i) x),()):=by
  intro n
  induction n with
  |zero =>intro i hi;refine aB PT ?_;refine ah (decide_eq_false (show ¬((i:Int)<((d.1.length:Nat):Int)) by omega)) ?_;rw[List.drop_eq_nil_of_le (by omega)];rfl
  |succ n ih =>
   intro i hi;have aK:i<d.1.length:=by omega
   refine aB PT ?_;refine ae (bj aK) (aa (aT (aba aK)) ?_);refine aa (HL hG d.1[i].2.1 x (by have:=hs.r _ (acB aK);omega)) ?_;rw[List.drop_eq_getElem_cons aK,W0];by_cases he:x∈d.1[i].2.1
   ·rw[if_pos he];exact ae (decide_eq_true he) rfl
   ·rw[if_neg he];refine ah (decide_eq_false he) ?_;have:=ih (i+1) (by omega);rw[←aN aK (by omega)]at this;exact this
 have:=loop d.1.length 0 (by omega);rw[List.drop_zero]at this;exact this
def OR(x:ab):List aF→Int→Int
 |[],_ => -1
 |g::r,i=>if g.1=x then i else OR x r (i+1)
theorem My(x:ab):∀(l:List aF) (i:Nat),(OR x l i = -1∧iD l x=none)∨∃k g,OR x l (i:Int)=((i+k:Nat):Int)∧l[k]? = some g∧iD l x=some g.2
 |[],i=>.inl ⟨rfl,rfl⟩
 |g::r,i=>by
  rw[OR,r9];by_cases h:g.1=x
  ·rw[if_pos h,if_pos h];exact .inr ⟨0,g,by simp,by simp,rfl⟩
  ·rw[if_neg h,if_neg h];have e:(i:Int)+1=((i+1:Nat):Int):=by omega
   rw[e];rcases My x r (i+1) with⟨h1,h2⟩|⟨k,q,h1,h2,h3⟩
   ·exact .inl ⟨h1,h2⟩
   ·exact .inr ⟨k+1,q,by rw[h1];congr 1;omega,by simpa using h2,h3⟩
theorem Xa(hG:HG G)(l:List aF)(x:ab)(hl:l.length≤1073741824):FX G 246244 kx ((l,()),((x,()),()))=some ((OR x l 0,()),((x,()),())):=by
 refine aC (hG _ _ rfl) VR ?_;have loop:∀(n i:Nat),i+n=l.length→LX G 246244 kx Tryz.f244 la (aY Tryz.prog 244 0) ((l,(((l.length:Nat):Int),((i:Int),()))),(((x,()),()),()))=some ((OR x (l.drop i) i,()),((x,()),())):=by
  intro n
  induction n with
  |zero =>intro i hi;refine aB EO ?_;refine ah (decide_eq_false (show ¬((i:Int)<((l.length:Nat):Int)) by omega)) ?_;rw[List.drop_eq_nil_of_le (by omega)];rfl
  |succ n ih =>
   intro i hi;have aK:i<l.length:=by omega
   have am5:FX G 245 Lt ((l[i],()),((x.1.1,(x.1.2,(x.2,()))),()))=some (((((l[i].1.1.1==x.1.1)&&(l[i].1.1.2==x.1.2))&&(l[i].1.2==x.2)),()),((x.1.1,(x.1.2,(x.2,()))),())) :=aC (hG _ _ rfl) afw rfl;refine aB EO ?_;refine ae (bj aK) (aa (aT (aba aK)) ?_);refine aa am5 ?_;rw[List.drop_eq_getElem_cons aK,OR];by_cases he:l[i].1=x
   ·rw[if_pos he];exact ae ((lg l[i].1 x).trans (decide_eq_true he)) rfl
   ·rw[if_neg he];refine ah ((lg l[i].1 x).trans (decide_eq_false he)) ?_;have:=ih (i+1) (by omega);have e:=aN aK hl;show LX G 246244 kx Tryz.f244 la (aY Tryz.prog 244 0) ((l,(((l.length:Nat):Int),(IntKind.wrap .i64 ((i:Int)+1),()))),(((x,()),()),()))=some ((OR x (l.drop (i+1)) ((i+1:Nat):Int),()),((x,()),()));rw[e];exact this
 have:=loop l.length 0 (by omega);rw[List.drop_zero]at this;exact this
theorem ag4(hG:HG G)(l:List aF)(x:ab)(hl:l.length≤1073741824):FX G 230 Lr ((l,x,()),())=some (ia zD (iD l x),()):=by
 refine aC (hG _ _ rfl) afs ?_;refine aa (Xa hG l x hl) ?_;rcases My x l 0 with⟨h1,h2⟩|⟨k,g,h1,h2,h3⟩
 ·have h1:OR x l 0 = -1:=h1;rw[h2];exact ae (decide_eq_true (show OR x l 0<0 by omega)) rfl
 ·have h1:OR x l 0=(k:Int):=by have:OR x l ((0:Nat):Int)=OR x l 0:=rfl;rw[←this,h1];congr 1;omega
  rw[h3];refine ah (decide_eq_false (show ¬OR x l 0<0 by omega)) ?_;refine aa (show bm l (OR x l 0)=some g by rw[h1];exact aT h2) ?_;rfl
theorem ag5(hG:HG G)(s:StateT)(x:ab)(hs:Sm s.1)(hg:s.2.length≤50000000):FX G 212 BA ((s,x,()),())=some ((resolve s x,()),()):=by
 refine aC (hG _ _ rfl) afe ?_;have hw:IntKind.wrap .i64 (((s.2.length:Nat):Int)+1)=((s.2.length+1:Nat):Int):=by rw[wrap_small (by omega) (by omega)];rfl
 have loop:∀(n i:Nat) (y:ab),i+n=s.2.length+1→LX G 212 BA Tryz.f212 yp (aY Tryz.prog 212 0) (((IntKind.wrap .i64 (((s.2.length:Nat):Int)+1)),((i:Int),())),(((s,()),((y,()),((zD,()),()))),()))=some ((res s.1 s.2 n y,()),()):=by
  intro n
  induction n with
  |zero =>intro i y hi;refine aB PO ?_;exact ah (decide_eq_false (show ¬((i:Int)<IntKind.wrap .i64 (((s.2.length:Nat):Int)+1)) by rw[hw];omega)) rfl
  |succ n ih =>
   intro i y hi;refine aB PO ?_;refine ae (decide_eq_true (show((i:Int)<IntKind.wrap .i64 (((s.2.length:Nat):Int)+1)) by rw[hw];omega)) ?_;refine aa (W9 hG s.1 y hs) ?_;rw[res];have h1:(ia zI (bM s.1 y)).2.1=(bM s.1 y).isSome:=jD _ _
   cases ha:(bM s.1 y).isSome
   ·rw[if_neg (by simp)];refine ah (h1.trans ha) ?_;refine aa (ag4 hG s.2 y (by omega)) ?_
    cases hf:iD s.2 y with
    |none=>exact ae rfl rfl
    |some z =>
     refine ah rfl ?_;have:=ih (i+1) z (by omega);have e:IntKind.wrap .i64 ((i:Int)+1)=((i+1:Nat):Int):=by rw[wrap_small (by omega) (by omega)];rfl
     rw[←e]at this;exact this
   ·rw[if_pos rfl];exact ae (h1.trans ha) rfl
 exact loop (s.2.length+1) 0 x (by omega)
theorem ag6(hG:HG G)(s:StateT)(c:lW)(hs:Sm s.1)(hg:s.2.length≤50000000):FX G 180 Ll ((s,c,()),())=some (aU s c,()):=by
 refine aC (hG _ _ rfl) aeZ ?_;refine aa (Mx hG s.1 c.1 hs) ?_;unfold aU
 cases hf:aG s.1 c.1 with
 |none=>exact ae rfl rfl
 |some v =>
  refine ah rfl ?_;refine aa (ag5 hG s c.2 hs hg) ?_;refine aa (HL hG v.2.1 (resolve s c.2) (by have:=hs.r v (dw hf);omega)) ?_;show _=some (((c.1,mT s c v),((0:Int),())),());unfold mT;by_cases hm:resolve s c.2∈v.2.1
  ·rw[if_pos hm];exact bB (decide_eq_true hm) rfl
  ·rw[if_neg hm];exact bB (decide_eq_false hm) rfl
def OT(G:(f:FuncId)→(g:aX)→Option (g.A→Option g.B)):Prop:=∀d,Wf d→FX G 172 Eb ((d,()),())=some ((decide (bN d=0),()),())
theorem Qx{l:List ai}{e:List aj}{c:lW}{v:ai}(hs:cq l)(hf:aO l c.1=some v)(x:ab):l.set (bU l c.1) (v.1,(gQ v.2.1 c.2 x,v.2.2))=(br (l,e) c x).1:=by rw[Ox hs (dL hs hf)];have hi:=gk hf;have hm:=dw hf;unfold br Vs.cj;rw[←hi,gm (d:=(l,e)) hs hm]
theorem FD{d:ak}(h:Wf d):rN d.1 d.2=true:=by unfold rN;have h1:=h.nv;have h2:=h.ne;simp only[Bool.and_eq_true,decide_eq_true_eq,List.all_eq_true];exact⟨by omega,by omega,fun v hv=>by have:=h.sd v hv;omega⟩
theorem Zx(hG:HG G)(hp:OT G)(o:aE):fP G o:=by
 intro s h hm TM;have Rj:=h.d.nv;have bp:=h.d.ne;have hn:=h.n;have WL:=h.d.small;have bV:=rY hm;have start:∀(e:Int) (w:ba),cf 154 qC Tryz.f154 (FX G) (LX G 154 qC Tryz.f154) ((o,()),(aV s,()))=some ((e,()),(w,()))→FX G 154 qC ((o,()),(aV s,()))=some ((e,()),(w,())):=fun e w a =>aC (hG _ _ rfl) a rfl;have f110:=abf hG (aV s) (ar o) h.d.se (by show s.1.2.length≤_;omega);unfold kP
 cases hf:(aP s.1.2 (ar o)).isSome with
 |true =>have e1:wi (aV s) (ar o)=(12,aV s):=if_pos hf;rw[e1]at f110;refine⟨12,aV s,start _ _ ((ab6).trans (ae (FD h.d) (aa f110 (ae rfl rfl)))),?_⟩;rw[if_pos (show(b5 s.1 (ar o)).isSome=true from hf)];rfl
 |false =>
 rw[if_neg (show ¬(b5 s.1 (ar o)).isSome=true by show ¬(aP s.1.2 (ar o)).isSome=true;rw[hf];simp)];by_cases h40:40≤s.1.2.length
 ·have e1:wi (aV s) (ar o)=(3,aV s):=(if_neg (show ¬(aP s.1.2 (ar o)).isSome=true by rw[hf];simp)).trans (if_pos h40);rw[e1]at f110;refine⟨3,aV s,start _ _ ((ab6).trans (ae (FD h.d) (aa f110 (ae rfl rfl)))),?_⟩;rw[if_pos h40];rfl
 rw[if_neg h40];obtain⟨E,hE⟩:∃E,E=bW (ar o,(e0,0)) s.1.2:=⟨_,rfl⟩;have e1:wi (aV s) (ar o)=(0,(s.1.1,(E,(s.2,())))):=by rw[hE];exact(if_neg (show ¬(aP s.1.2 (ar o)).isSome=true by rw[hf];simp)).trans (if_neg h40)
 rw[e1]at f110;obtain⟨x,hx⟩:∃x:ab,x=(ar o,0):=⟨_,rfl⟩;obtain⟨y,hy⟩:∃y:ab,y=(ar o,1):=⟨_,rfl⟩;have f111:FX G 179 D9 ((ar o,()),())=some ((x,y,()),()):=by rw[hx,hy];exact aC (hG _ _ rfl) aaX rfl
 have f112:=fun c:lW=>ag6 hG s c h.d.sm (by omega);have go:∀(e:Int) (w:ba),LX G 154 qC Tryz.f154 od (aY Tryz.prog 154 0) (((2:Int),((0:Int),())),(((s.1.1,(E,(s.2,()))),((s,()),((x,()),()))),([x,y],([oA o,oB o],()))))=some ((e,()),(w,()))→FX G 154 qC ((o,()),(aV s,()))=some ((e,()),(w,())):=fun e w a =>start _ _ ((ab6).trans (ae (FD h.d) (aa f110 (ah rfl (aa f111 a)))));by_cases hA:(aU s (oA o)).2.1=0
 case neg =>
  rw[if_pos hA];have am6:aU s (oA o)=(zC,(13,())):=by
   unfold aU at hA ⊢
   cases hv:aG s.1 (oA o).1 with
   |none=>rfl
   |some v=>rw[hv]at hA;exact absurd rfl hA
  refine⟨13,(s.1.1,(E,(s.2,()))),go _ _ ?_,rfl⟩;refine aB Am ?_;refine ae rfl (ae rfl (aa (a:=oA o) rfl (aa (f112 (oA o)) ?_)));rw[am6];exact ae rfl rfl
 rw[if_neg (fun k=>k hA)];obtain⟨va,ca⟩:=lz hA;obtain⟨cA,hcA⟩:∃c:lW,c=(aU s (oA o)).1:=⟨_,rfl⟩;have eA:aU s (oA o)=(cA,(0,())):=by
  rw[hcA];have:(aU s (oA o)).2=(0,()):=by have h1:(aU s (oA o)).2=((aU s (oA o)).2.1,()):=rfl;rw[h1,hA]
  rw[←this]
 have cAv:(aO s.1.1 cA.1).isSome=true:=by rw[hcA,ca];exact va
 obtain⟨v1,vL⟩:=abM.1 cAv;have acI:=dw vL;obtain⟨d1,Ow⟩:∃d1:ak,d1=br (s.1.1,E) cA x:=⟨_,rfl⟩;have am7:s.1.1.set (bU s.1.1 cA.1) (v1.1,(gQ v1.2.1 cA.2 x,v1.2.2))=d1.1:=by rw[Ow];exact Qx h.d.sv vL x
 have d1s:cq d1.1:=by rw[Ow];exact h.d.sv.re _ _
 have hl1:=(abg.1 (dL h.d.sv vL)).1;have abp:∀v∈d1.1,v.2.1.length≤50000000:=fun v hv=>by
  rw[Ow]at hv;obtain⟨w,hw,rfl⟩:=abY.1 (show v∈s.1.1.map (iX cA.1 (gQ (aW (s.1.1,E) cA.1) cA.2 x)) from hv);have h1:=h.d.sd w hw;unfold iX
  split
  ·have h2:=BO (aW (s.1.1,E) cA.1) cA.2 x;have h3:(aW (s.1.1,E) cA.1).length≤80:=by rw[←gk vL,gm (d:=(s.1.1,E)) h.d.sv acI];exact h.d.sd v1 acI
   show(gQ (aW (s.1.1,E) cA.1) cA.2 x).length≤50000000;omega
  ·omega
 have d1l:d1.1.length=s.1.1.length:=by rw[Ow];exact fO _ _ _
 have abq:∀(e:Int) (w:ba),LX G 154 qC Tryz.f154 od (aY Tryz.prog 154 0) (((2:Int),((1:Int),())),(((d1.1,(E,(s.2,()))),((s,()),((x,()),()))),([x,y],([oA o,oB o],()))))=some ((e,()),(w,()))→FX G 154 qC ((o,()),(aV s,()))=some ((e,()),(w,())):=fun e w a=>by
  refine go _ _ ?_;refine aB Am ?_;refine ae rfl (ae rfl (aa (a:=oA o) rfl (aa (f112 (oA o)) ?_)));rw[eA];refine ah rfl (ah rfl ?_);refine aa (sI hG (s.1.1,(E,(s.2,()))) cA.1 h.d.sv WL.n) ?_;refine ae (dU (gy _) (bj hl1)) (aa (dL h.d.sv vL) ?_);refine ae rfl (aa (a:=x) rfl ?_);refine aa (Wz hG v1.2.1 cA.2 x (WL.r v1 acI)) ?_;refine aa (dL h.d.sv vL) ?_;have key:∀a1:List ai,a1=d1.1→LX G 154 qC Tryz.f154 od (aY Tryz.prog 154 0) (((2:Int),((1:Int),())),(((a1,(E,(s.2,()))),((s,()),((x,()),()))),([x,y],([oA o,oB o],()))))=some ((e,()),(w,())):=fun a1 H6=>by subst H6;exact a
  exact key _ am7
 by_cases hB:(aU s (oB o)).2.1=0
 case neg =>
  rw[if_pos hB];have am8:aU s (oB o)=(zC,(13,())):=by
   unfold aU at hB ⊢
   cases hv:aG s.1 (oB o).1 with
   |none=>rfl
   |some v=>rw[hv]at hB;exact absurd rfl hB
  refine⟨13,(d1.1,(E,(s.2,()))),abq _ _ ?_,rfl⟩;refine aB Am ?_;refine ae rfl (ae rfl (aa (a:=oB o) rfl (aa (f112 (oB o)) ?_)));rw[am8];exact ae rfl rfl
 rw[if_neg (fun k=>k hB)];obtain⟨vb,cb⟩:=lz hB;obtain⟨cB,Zy⟩:∃c:lW,c=if(aG s.1 (oB o).1).isSome=true∧(oB o).2=(ar o,0) then oB o else(aU s (oB o)).1:=⟨_,rfl⟩
 have eB:aU s (oB o)=((aU s (oB o)).1,(0,())):=by
  have:(aU s (oB o)).2=(0,()):=by have h1:(aU s (oB o)).2=((aU s (oB o)).2.1,()):=rfl;rw[h1,hB]
  rw[←this]
 have cB1:cB.1=(oB o).1:=by rw[Zy];split;rfl;exact cb
 have cBv:(aO d1.1 cB.1).isSome=true:=by rw[Ow];exact ud _ (by rw[cB1];exact vb)
 obtain⟨v2,A8⟩:=abM.1 cBv;have ag8:=dw A8;have zK:=(abg.1 (dL d1s A8)).1;obtain⟨d2,YG⟩:∃d2:ak,d2=br d1 cB y:=⟨_,rfl⟩;have Zz:d1.1.set (bU d1.1 cB.1) (v2.1,(gQ v2.2.1 cB.2 y,v2.2.2))=d2.1:=by rw[YG];exact Qx (e:=d1.2) d1s A8 y
 have abr:gS s o=d2:=by rw[YG,Ow,hcA,Zy,hx,hy,hE];rfl
 have hE2:d2.2=E:=by rw[YG,Ow];rfl
 have hwf:Wf d2:=by
  rw[←abr];unfold gS;have hn0:aP s.1.2 (ar o)=none:=by simpa using hf
  refine h.d.link bV hn0 h40 (by rw[ca];exact va) ?_;rw[←Zy,cB1];exact vb
 have last:∀(e:Int) (w:ba),LX G 154 qC Tryz.f154 od (aY Tryz.prog 154 0) (((2:Int),((2:Int),())),(((d2.1,(E,(s.2,()))),((s,()),((x,()),()))),([x,y],([oA o,oB o],()))))=some ((e,()),(w,()))→FX G 154 qC ((o,()),(aV s,()))=some ((e,()),(w,())):=fun e w a=>by
  refine abq _ _ ?_;refine aB Am ?_;refine ae rfl (ae rfl (aa (a:=oB o) rfl (aa (f112 (oB o)) ?_)));rw[eB];have key:∀a2:List ai,a2=d2.1→LX G 154 qC Tryz.f154 od (aY Tryz.prog 154 0) (((2:Int),((2:Int),())),(((a2,(E,(s.2,()))),((s,()),((x,()),()))),([x,y],([oA o,oB o],()))))=some ((e,()),(w,())):=fun a2 GQ=>by subst GQ;exact a
  refine ah rfl (ae rfl ?_);have sK:=lg (oB o).2 x;by_cases YS:(oB o).2=x
  ·have ecB:cB=oB o:=by rw[Zy];exact if_pos ⟨vb,YS.trans hx⟩
   refine ae (sK.trans (decide_eq_true YS)) ?_;rw[ecB]at A8 zK Zz;refine aa (sI hG (d1.1,(E,(s.2,()))) (oB o).1 d1s (by show d1.1.length≤_;omega)) ?_;refine ae (dU (gy _) (bj zK)) (aa (dL d1s A8) ?_);refine ae rfl (aa (a:=y) rfl ?_);refine aa (Wz hG v2.2.1 (oB o).2 y (abp v2 ag8)) ?_;refine aa (dL d1s A8) ?_;exact key _ Zz
  ·have ecB:cB=(aU s (oB o)).1:=by rw[Zy];exact if_neg (fun k=>YS (k.2.trans hx.symm))
   refine ah (sK.trans (decide_eq_false YS)) ?_;rw[ecB]at A8 zK Zz;refine aa (sI hG (d1.1,(E,(s.2,()))) (aU s (oB o)).1.1 d1s (by show d1.1.length≤_;omega)) ?_;refine ae (dU (gy _) (bj zK)) (aa (dL d1s A8) ?_);refine ae rfl (aa (a:=y) rfl ?_);refine aa (Wz hG v2.2.1 (aU s (oB o)).1.2 y (abp v2 ag8)) ?_;refine aa (dL d1s A8) ?_;exact key _ Zz
 have f114:=hp d2 hwf;rw[abr];have e2:(d2.1,E)=d2:=by rw[←hE2]
 by_cases hg:bN d2=0
 ·rw[if_neg (fun k=>k hg)];refine⟨0,(d2.1,(E,(s.2,()))),last _ _ ?_,?_⟩
  ·refine aB Am ?_;refine ah rfl ?_;have key:∀q:ak,q=d2→((FX G 172 Eb ((q,()),())).bind fun(LL:((Bool×Unit)×Unit))=>cond (not LL.1.1) (some (((15:Int),()),((d2.1,(E,(s.2,()))),()))) (some (((0:Int),()),((d2.1,(E,(s.2,()))),()))))=some (((0:Int),()),((d2.1,(E,(s.2,()))),())):=fun q hq=>by subst hq;exact aa f114 (bB (decide_eq_true hg) rfl)
   exact key _ e2
  ·show(CN (d2.1,(E,(s.2,()))),((0:Int),()))=((d2,s.2),(0,()));show(((d2.1,E),s.2),((0:Int),()))=((d2,s.2),(0,()));rw[e2]
 ·rw[if_pos hg];refine⟨15,(d2.1,(E,(s.2,()))),last _ _ ?_,rfl⟩;refine aB Am ?_;refine ah rfl ?_;have key:∀q:ak,q=d2→((FX G 172 Eb ((q,()),())).bind fun(LL:((Bool×Unit)×Unit))=>cond (not LL.1.1) (some (((15:Int),()),((d2.1,(E,(s.2,()))),()))) (some (((0:Int),()),((d2.1,(E,(s.2,()))),()))))=some (((15:Int),()),((d2.1,(E,(s.2,()))),())):=fun q hq=>by subst hq;exact aa f114 (bB (decide_eq_false hg) rfl)
  exact key _ e2
theorem ag9(hG:HG G)(row:List ab)(d:ab)(hl:row.length≤100000000):FX G 261 Lw ((row,d,()),())=some (zt (cK row d 1),()):=by
 refine aC (hG _ _ rfl) afE ?_;have key:FX G 167 Ei ((row,(d,((1:Int),()))),())=some (zt (cK row d 1),()):=by
  refine aC (hG _ _ rfl) aaY ?_;refine aa (Fa (hG _ _ rfl) row d (by omega)) ?_;unfold cK;by_cases hd:d∈row
  ·rw[if_pos hd];obtain⟨k,h1,h2,h3⟩:=eX hd;have aK:=(abg.1 h2).1;refine ah (decide_eq_false (show ¬idx d row 0<0 by omega)) ?_;refine ah (Ju hd) ?_;have LN:IntKind.wrap .i64 (idx d row 0+1)=((k+1:Nat):Int):=by rw[h1,wrap_small (by omega) (by omega)];rfl
   have As:(k+1)%row.length<row.length:=adR _ (by omega);have hx:=aba As;refine aa (show bm row (Int.tmod (IntKind.wrap .i64 (idx d row 0+1)) ((row.length:Nat):Int))=some row[(k+1)%row.length] by rw[LN,tW];exact aT hx) ?_;rw[h1,Int.toNat_natCast,hx];rfl
  ·rw[if_neg hd];exact ae (decide_eq_true (fV.2 hd)) rfl
 refine aa key ?_;rfl
def Mz(x:ab):List ai→Option ab
 |[]=>none
 |v::r=>if x∈v.2.1 then cK v.2.1 x 1 else Mz x r
theorem Qy{l:List ai}(h:Rw l){v:ai}{x:ab}(hv:v∈l)(hx:x∈v.2.1):∀r,(∀u∈r,u∈l)→v∈r→Mz x r=cK v.2.1 x 1
 |[],_,k=>by cases k
 |u::r,hs,k=>by
  rw[Mz];by_cases hu:x∈u.2.1
  ·rw[if_pos hu,h.one hv (hs u List.mem_cons_self) hx hu]
  ·rw[if_neg hu];rcases abn.1 k with e|k
   ·rw[e]at hx;exact absurd hx hu
   ·exact Qy h hv hx r (fun w hw=>hs w (aa5 _ hw)) k
theorem H7{x:ab}:∀{l:List ai},x∉an l→Mz x l=none
 |[],_=>rfl
 |v::r,h=>by rw[lk,List.mem_append]at h;rw[Mz,if_neg (fun k=>h (.inl k))];exact H7 fun k=>h (.inr k)
theorem OU{d:ak}(h:Rw d.1)(x:ab):Mz x d.1=kN d x:=by
 by_cases hx:x∈an d.1
 ·obtain⟨v,hv,kb⟩:=aM.1 hx;rw[Fv h hv kb];exact Qy h hv kb d.1 (fun _ k=>k) hv
 ·rw[H7 hx];unfold kN bM;rw[Ma hx]
theorem aha(hG:HG G)(d:ak)(x:ab)(hs:Sm d)(h:Rw d.1):FX G 258 BD ((d,x,()),())=some (zt (kN d x),()):=by
 have hv:=hs.v;rw[←OU h x];refine aC (hG _ _ rfl) afB ?_;have loop:∀(n i:Nat),i+n=d.1.length→LX G 258 BD Tryz.f258 yz (aY Tryz.prog 258 0) ((d.1,(((d.1.length:Nat):Int),((i:Int),()))),(((x,()),((zD,()),())),()))=some (zt (Mz x (d.1.drop i)),()):=by
  intro n
  induction n with
  |zero =>intro i hi;refine aB PZ ?_;refine ah (decide_eq_false (show ¬((i:Int)<((d.1.length:Nat):Int)) by omega)) ?_;rw[List.drop_eq_nil_of_le (by omega)];rfl
  |succ n ih =>
   intro i hi;have aK:i<d.1.length:=by omega
   refine aB PZ ?_;refine ae (bj aK) (aa (aT (aba aK)) ?_);refine aa (ag9 hG d.1[i].2.1 x (by have:=hs.r _ (acB aK);omega)) ?_;rw[List.drop_eq_getElem_cons aK,Mz];by_cases he:x∈d.1[i].2.1
   ·rw[if_pos he];unfold cK;rw[if_pos he];obtain⟨k,h1,h2,h3⟩:=eX he;have hl:=(abg.1 h2).1;have hm:((idx x d.1[i].2.1 0).toNat+1)%d.1[i].2.1.length<d.1[i].2.1.length:=adR _ (by omega);rw[List.getElem?_eq_getElem hm];exact ae rfl rfl
   ·rw[if_neg he];unfold cK;rw[if_neg he];refine ah rfl ?_;have:=ih (i+1) (by omega);rw[←aN aK (by omega)]at this;exact this
 have:=loop d.1.length 0 (by omega);rw[List.drop_zero]at this;exact this
theorem at_mem{d:ak}{x:ab}(h:(bM d x).isSome=true):x∈an d.1:=by
 apply Classical.byContradiction;intro k;unfold bM at h;rw[Ma k]at h
 cases h
theorem ahb(hG:HG G)(d:ak)(x:ab)(h:Wf d):FX G 255 Hw ((d,x,()),())=some (zt (Kb d x),()):=by
 have hs:=h.sm;refine aC (hG _ _ rfl) afz ?_;refine aa (W9 hG d x hs) ?_;have h1:(ia zI (bM d x)).2.1=(bM d x).isSome:=jD _ _;unfold Kb
 cases ha:(bM d x).isSome
 ·rw[if_neg (by simp)];exact bB (h1.trans ha) rfl
 ·rw[if_pos rfl];refine bB (h1.trans ha) ?_;refine aa (Mg (hG _ _ rfl) x (h.side (at_mem ha))) ?_;exact aa (aha hG d (ag x) hs h.rw) rfl
theorem ahc(hG:HG G)(d:ak)(hs:Sm d):FX G 249 yl ((d,()),())=some ((fW d.2,()),()):=by
 have he:=hs.e;refine aC (hG _ _ rfl) afy ?_;have loop:∀(n i:Nat) (out:List ab),i+n=d.2.length→out.length=2*i→LX G 249 yl Tryz.f249 yw (aY Tryz.prog 249 0) ((d.2,(((d.2.length:Nat):Int),((i:Int),()))),((),(out,())))=some ((out++fW (d.2.drop i),()),()):=by
  intro n
  induction n with
  |zero =>intro i out hi ho;refine aB PU ?_;refine ah (decide_eq_false (show ¬((i:Int)<((d.2.length:Nat):Int)) by omega)) ?_;rw[List.drop_eq_nil_of_le (by omega)];show some ((out,()),())=some ((out++[],()),());rw[List.append_nil]
  |succ n ih =>
   intro i out hi ho;have aK:i<d.2.length:=by omega
   refine aB PU ?_;refine ae (bj aK) (aa (aT (aba aK)) ?_);refine aa (Mg (hG _ _ rfl) (d.2[i].1,0) (.inl rfl)) ?_;refine ae (fits (by show out.length+2≤_;omega)) ?_;have:=ih (i+1) (out++[(d.2[i].1,0),(d.2[i].1,1)]) (by omega) (by simp[ho];omega);rw[List.drop_eq_getElem_cons aK];rw[←aN aK (by omega),List.append_assoc]at this;exact this
 exact loop d.2.length 0 [] (by omega) rfl
theorem Xb(hG:HG G)(l:List ai)(hl:l.length≤50000000):FX G 240238 lZ ((l,()),())=some ((((al l:Nat):Int),()),()):=by
 refine aC (hG _ _ rfl) VS ?_;have loop:∀(n i m:Nat),i+n=l.length→m≤i→LX G 240238 lZ Tryz.f238 lf (aY Tryz.prog 238 0) (((m:Int),(l,(((l.length:Nat):Int),((i:Int),())))),((),()))=some ((((m+al (l.drop i):Nat):Int),()),()):=by
  intro n
  induction n with
  |zero =>intro i m hi hm;refine aB EP ?_;refine ah (decide_eq_false (show ¬((i:Int)<((l.length:Nat):Int)) by omega)) ?_;rw[List.drop_eq_nil_of_le (by omega)];rfl
  |succ n ih =>
   intro i m hi hm;have aK:i<l.length:=by omega
   have ana:FX G 239 Lu ((l[i],()),())=some ((l[i].2.1.isEmpty,()),()):=by
    refine aC (hG _ _ rfl) afx ?_;have:(((l[i].2.1.length:Nat):Int)==0)=l[i].2.1.isEmpty:=by cases l[i].2.1<;>simp;omega
    exact congrArg (fun b:Bool=>some ((b,()),())) this
   refine aB EP ?_;refine ae (bj aK) (aa (aT (aba aK)) ?_);refine aa ana ?_;rw[List.drop_eq_getElem_cons aK];unfold al;rw[List.countP_cons]
   cases hb:l[i].2.1.isEmpty
   ·refine ah rfl ?_;have:=ih (i+1) m (by omega) (by omega);rw[←aN aK (by omega)]at this;exact this
   ·refine ae rfl ?_;have:=ih (i+1) (m+1) (by omega) (by omega);rw[←aN aK (by omega),←aN (i:=m) (n:=l.length) (by omega) (by omega)]at this;refine this.trans ?_;refine congrArg (fun q:Nat=>some ((((q:Nat):Int),()),())) ?_;unfold al;simp;omega
 have:=loop l.length 0 0 (by omega) (by omega);rw[List.drop_zero,Nat.zero_add]at this;exact this
def Fo(g:List Nat):Prop:=∀(i x:Nat),g[i]? = some x→x≤i
def root(g:List Nat)(i:Nat):Nat :=match g[i]? with
 |some x=>if h:x<i then root g x else i
 |none=>i
termination_by i
theorem eP{g:List Nat}{i x:Nat}(h:g[i]? = some x):root g i=if x<i then root g x else i:=by rw[root,h];simp
theorem nt{g:List Nat}{i:Nat}(h:g[i]? = none):root g i=i:=by rw[root,h]
theorem Qz(g:List Nat):∀i,root g i≤i:=by
 intro i
 induction i using Nat.strongRecOn with
 |_ i ih =>
  cases h:g[i]? with
  |none=>rw[nt h];exact abZ _
  |some x =>
   rw[eP h]
   split
   ·rename_i hx;have:=ih x hx;omega
   ·exact abZ _
theorem MA{g:List Nat}(hf:Fo g):∀i,i<g.length→g[root g i]? = some (root g i):=by
 intro i
 induction i using Nat.strongRecOn with
 |_ i ih =>
  intro hi;have h:=aba hi;rw[eP h]
  split
  ·rename_i hx;exact ih _ hx (by omega)
  ·have:=hf i _ h;rw[h];congr 1;omega
theorem nu{g:List Nat}{i:Nat}(h:g[i]? = some i):root g i=i:=by rw[eP h,if_neg (by omega)]
theorem Fo.set{g:List Nat}(hf:Fo g){i y:Nat}(h:y≤i):Fo (g.set i y):=fun j x hj=>by
 rw[List.getElem?_set]at hj
 split at hj
 ·rename_i e;subst e
  split at hj
  ·cases hj;exact h
  ·cases hj
 ·exact hf j x hj
theorem OV{g:List Nat}(hf:Fo g){i x y:Nat}(hi:g[i]? = some x)(hx:g[x]? = some y)(aK:x<i):∀j,root (g.set i y) j=root g j:=by
 have hyx:=hf x y hx;have rf:=(abg.1 hi).1;intro j
 induction j using Nat.strongRecOn with
 |_ j ih =>
  by_cases e:j=i
  ·subst e;have h1:(g.set j y)[j]? = some y:=by rw[List.getElem?_set];simp[rf]
   rw[eP h1,if_pos (by omega),ih y (by omega),eP hi,if_pos aK,eP hx]
   split
   ·rfl
   ·have:y=x:=by omega
    subst this;exact nu hx
  ·have h1:(g.set i y)[j]? = g[j]? := by rw[List.getElem?_set,if_neg (fun k=>e k.symm)]
   cases h:g[j]? with
   |none=>rw[nt h,nt (h1.trans h)]
   |some z =>
    rw[eP h,eP (h1.trans h)]
    split
    ·rename_i hz;exact ih z hz
    ·rfl
theorem S6{g:List Nat}{a b:Nat}(ha:g[a]? = some a)(hb:g[b]? = some b):∀j,root (g.set (max a b) (min a b)) j=if root g j=max a b then min a b else root g j:=by
 have hm:g[max a b]? = some (max a b):=by rcases Nat.le_total a b with h|h<;>simp[Nat.max_eq_right,Nat.max_eq_left,h,ha,hb]
 have hn:g[min a b]? = some (min a b):=by rcases Nat.le_total a b with h|h<;>simp[Nat.min_eq_right,Nat.min_eq_left,h,ha,hb]
 have hml:=(abg.1 hm).1;have hle:min a b≤max a b:=by omega
 generalize max a b=M at *;generalize min a b=m at *;have aK:∀j,(g.set M m)[j]? = if j=M then some m else g[j]? := fun j=>by
  rw[List.getElem?_set];by_cases e:M=j
  ·subst e;simp[hml]
  ·rw[if_neg e,if_neg (fun k=>e k.symm)]
 intro j
 induction j using Nat.strongRecOn with
 |_ j ih =>
  by_cases ej:j=M
  ·subst ej;have h1:(g.set j m)[j]? = some m:=by rw[aK,if_pos rfl]
   rw[eP h1,nu hm,if_pos rfl];by_cases e:m<j
   ·rw[if_pos e,ih m e,nu hn,if_neg (by omega)]
   ·rw[if_neg e];omega
  ·have h1:(g.set M m)[j]? = g[j]? := by rw[aK,if_neg ej]
   cases h:g[j]? with
   |none=>rw[nt h,nt (h1.trans h),if_neg ej]
   |some z =>
    rw[eP h,eP (h1.trans h)];by_cases hz:z<j
    ·rw[if_pos hz,if_pos hz];exact ih z hz
    ·rw[if_neg hz,if_neg hz,if_neg ej]
def fI(g:List Nat):List Int:=g.map fun n=>((n:Nat):Int)
theorem FE(g:List Nat):(fI g).length=g.length:=by simp[fI]
theorem xi{g:List Nat}{i x:Nat}(h:g[i]? = some x):(fI g)[Int.toNat (i:Int)]? = some (x:Int):=by simp[fI,h]
theorem Xc(g:List Nat)(i x:Nat):(fI g).set (Int.toNat (i:Int)) (x:Int)=fI (g.set i x):=by simp[fI,List.map_set]
theorem FF{g:List Nat}{i:Nat}(h:i<g.length):(decide ((0:Int)≤(i:Int))&&decide ((i:Int)<(((fI g).length:Nat):Int)))=true:=by rw[FE];exact dU (gy i) (bj h)
structure H8(g g':List Nat):Prop where
 f:Fo g'
 n:g'.length=g.length
 r:∀j,root g' j=root g j
theorem H8.trans{a b c:List Nat}(h:H8 a b)(k:H8 b c):H8 a c:=⟨k.f,k.n.trans h.n,fun j=>(k.r j).trans (h.r j)⟩
theorem Xd(hG:HG G)(g:List Nat)(i:Nat)(hf:Fo g)(hi:i<g.length):∃g',H8 g g'∧FX G 260 tK (((i:Int),()),(fI g,()))=some ((((root g i:Nat):Int),()),(fI g',())):=by
 have loop:∀(i:Nat) (g:List Nat),Fo g→i<g.length→∃g',H8 g g'∧LX G 260 tK Tryz.f260 uX (aY Tryz.prog 260 0) (((i:Int),()),((),(fI g,())))=some ((((root g i:Nat):Int),()),(fI g',())):=by
  intro i
  induction i using Nat.strongRecOn with
  |_ i ih =>
   intro g hf hi;have h:=aba hi;generalize g[i]=x at h;have hxi:=hf i x h;by_cases hx:x<i
   ·have h2:=aba (show x<g.length by omega);generalize g[x]=y at h2;have hyx:=hf x y h2;have hs:=OV hf h h2 hx;have hf2:Fo (g.set i y):=hf.set (by omega);obtain⟨g',h3,h4⟩:=ih y (by omega) (g.set i y) hf2 (by rw[List.length_set];omega);refine⟨g',⟨h3.f,by rw[h3.n,List.length_set],fun j=>(h3.r j).trans (hs j)⟩,?_⟩;refine aB P1 ?_;refine ae (FF hi) (aa (xi h) ?_);refine ae (show(((x:Nat):Int) != (i:Int))=true by rw[bne_iff_ne];omega) ?_;refine ae (FF hi) (aa (xi h) ?_);refine ae (FF (show x<g.length by omega)) (aa (xi h2) ?_);refine ae (FF hi) (aa (xi h) ?_);have anb:=Xc g i y;have key:∀f:List Int,f=fI (g.set i y)→cond ((decide ((0:Int)≤(i:Int)))&&(decide ((i:Int)<(((List.length f):Nat):Int)))) (((f)[(Int.toNat (i:Int))]?).bind fun(y5:Int)=>LX G 260 tK Tryz.f260 uX (aY Tryz.prog 260 0) ((y5,()),((),(f,())))) none=some ((((root g i:Nat):Int),()),(fI g',())):=fun f hf=>by
     subst hf;refine ae (FF (by rw[List.length_set];exact hi)) (aa (xi (x:=y) (by rw[List.getElem?_set];simp[hi])) ?_);rw[h4,hs y,eP h,if_pos hx,eP h2];by_cases hy:y<x
     ·rw[if_pos hy]
     ·have:y=x:=by omega
      subst this;rw[if_neg (by omega),nu h2]
    exact key _ anb
   ·have:x=i:=by omega
    subst this;refine⟨g,⟨hf,rfl,fun _=>rfl⟩,?_⟩;refine aB P1 ?_;refine ae (FF hi) (aa (xi h) ?_);rw[nu h];exact ah (by simp) rfl
 obtain⟨g',h1,h2⟩:=loop i g hf hi;exact⟨g',h1,aC (hG _ _ rfl) afD h2⟩
def FG(a b r:Nat):Nat:=if r=max a b then min a b else r
theorem ahd(hG:HG G)(g:List Nat)(i k:Nat)(hf:Fo g)(hi:i<g.length)(hk:k<g.length):∃g',Fo g'∧g'.length=g.length∧(∀j,root g' j=FG (root g i) (root g k) (root g j))∧FX G 259 Lv (((i:Int),((k:Int),())),(fI g,()))=some ((),(fI g',())):=by
 obtain⟨g1,h1,e1⟩:=Xd hG g i hf hi;obtain⟨g2,h2,e2⟩:=Xd hG g1 k h1.f (by rw[h1.n];exact hk);rw[h1.r k]at e2;have hs:=h1.trans h2;have ra:g2[root g i]? = some (root g i):=by have:=MA hs.f i (by rw[hs.n];exact hi);rw[hs.r i]at this;exact this
 have rb:g2[root g k]? = some (root g k):=by have:=MA hs.f k (by rw[hs.n];exact hk);rw[hs.r k]at this;exact this
 have hal:=(abg.1 ra).1;have hbl:=(abg.1 rb).1;have hm:max (root g i) (root g k)<g2.length:=by omega
 refine⟨g2.set (max (root g i) (root g k)) (min (root g i) (root g k)),hs.f.set (by omega),by rw[List.length_set,hs.n],fun j=>by rw[S6 ra rb j,hs.r j];rfl,?_⟩;refine aC (hG _ _ rfl) afC ?_;refine aa e1 (aa e2 ?_);have em:(max ((root g i:Nat):Int) ((root g k:Nat):Int):Int)=((max (root g i) (root g k):Nat):Int):=by omega
 have en:(min ((root g i:Nat):Int) ((root g k:Nat):Int):Int)=((min (root g i) (root g k):Nat):Int):=by omega
 have key:∀m n:Int,m=((max (root g i) (root g k):Nat):Int)→n=((min (root g i) (root g k):Nat):Int)→cond ((decide ((0:Int)≤m))&&(decide (m<(((List.length (fI g2)):Nat):Int)))) (((fI g2)[(Int.toNat m)]?).bind fun(y3:Int)=>(some ((),((List.set (fI g2) (Int.toNat m) n),())):Option (Unit×((List Int)×Unit)))) none=some ((),(fI (g2.set (max (root g i) (root g k)) (min (root g i) (root g k))),())):=fun m n YD Ns=>by subst YD Ns;refine ae (FF hm) (aa (xi (aba hm)) ?_);rw[Xc]
 exact key _ _ em en
theorem OX{α:Type}(x:ab)(es:List (ab×α)):wy bA x es=es.findIdx? fun e=>decide (e.1=x):=by
 show List.findIdx? (fun e:ab×α=>((x.1.1==e.1.1.1)&&(x.1.2==e.1.1.2))&&(x.2==e.1.2)) es=_;congr 1;funext e;rw[lg x e.1];by_cases h:x=e.1
 ·rw[decide_eq_true h,decide_eq_true h.symm]
 ·rw[decide_eq_false h,decide_eq_false (fun k=>h k.symm)]
def gV{β α:Type}[DecidableEq β](x:β):List (β×α)→Option α
 |[]=>none
 |e::r=>if e.1=x then some e.2 else gV x r
theorem OY{β α:Type}[DecidableEq β](x:β):∀es:List (β×α),((es.findIdx? fun e=>decide (e.1=x)).bind fun i=>(es[i]?).map (·.2))=gV x es
 |[]=>rfl
 |e::r=>by
  have ih:=OY x r;rw[List.findIdx?_cons,gV];by_cases h:e.1=x
  ·rw[if_pos (decide_eq_true h),if_pos h];rfl
  ·rw[if_neg (by simpa using h),if_neg h,←ih]
   cases r.findIdx? fun e=>decide (e.1=x)<;>simp
theorem Xe{α:Type}(x:ab)(es:List (ab×α)):kd bA x es=gV x es:=by have:=OY x es;rw[←OX]at this;exact this
theorem Xf{α:Type}{x:ab}(v:α){es:List (ab×α)}(h:x∉es.map (·.1)):oO bA x v es=es++[(x,v)]:=by
 have e:wy bA x es=none:=by rw[OX,List.findIdx?_eq_none_iff];intro q hq;exact decide_eq_false fun k=>h (abY.2 ⟨q,hq,k⟩)
 unfold oO
 split
 ·rename_i i k;rw[e]at k;cases k
 ·rfl
theorem MB{β α:Type}[DecidableEq β]{x:β}{v:α}:∀{es:List (β×α)},(es.map (·.1)).Nodup→(x,v)∈es→gV x es=some v
 |[],_,h=>by cases h
 |e::r,hn,h=>by
  simp only[List.map_cons,List.nodup_cons]at hn;rw[gV];rcases abn.1 h with e1|h
  ·subst e1;rw[if_pos rfl]
  ·rw[if_neg (fun k=>hn.1 (by rw[k];exact List.mem_map.2 ⟨_,h,rfl⟩))];exact MB hn.2 h
def jy:List ai→Nat→List (ab×Int)
 |[],_=>[]
 |v::r,i=>v.2.1.map (fun x=>(x,(i:Int)))++jy r (i+1)
theorem AM:∀(l:List ai) (i:Nat),(jy l i).map (·.1)=an l
 |[],_=>rfl
 |v::r,i=>by
  have e:(v.2.1.map fun x=>(x,(i:Int))).map (·.1)=v.2.1:=by rw[List.map_map];exact List.map_id _
  rw[jy,lk,List.map_append,AM r,e]
theorem MC:∀(a b:List ai) (i:Nat),jy (a++b) i=jy a i++jy b (i+a.length)
 |[],b,i=>rfl
 |v::r,b,i=>by rw[List.cons_append,jy,jy,MC r b,List.append_assoc];congr 3;simp;omega
theorem MD{x:ab}{a:Int}:∀{l:List ai} {i:Nat},(x,a)∈jy l i→∃k v,l[k]? = some v∧a=((i+k:Nat):Int)∧x∈v.2.1
 |[],i,h=>by cases h
 |v::r,i,h=>by
  rw[jy]at h;rcases abH.1 h with h|h
  ·obtain⟨y,hy,e⟩:=abY.1 h
   cases e
   exact⟨0,v,rfl,rfl,hy⟩
  ·obtain⟨k,u,h1,h2,h3⟩:=MD h;exact⟨k+1,u,by simpa using h1,by rw[h2];congr 1;omega,h3⟩
theorem QA{x:ab}:∀{l:List ai} {i k:Nat} {v:ai},l[k]? = some v→x∈v.2.1→(x,((i+k:Nat):Int))∈jy l i
 |v::r,i,0,u,h,hx=>by simp at h;subst h;rw[jy];exact abt _ (abY.2 ⟨x,hx,rfl⟩)
 |v::r,i,k+1,u,h,hx=>by
  rw[jy];refine abo _ ?_;have:=QA (i:=i+1) (k:=k) (by simpa using h) hx
  rwa [show i+1+k=i+(k+1) by omega]at this
theorem Xg(i:Nat):fI (List.range i)++[(i:Int)]=fI (List.range (i+1)):=by rw[List.range_succ];simp[fI]
section
variable {d:ak} {y:ju.B}
theorem ZA(h:Wf d){i:Nat}(hi:i<d.1.length){f:List Int}{nn:Int} (next:LX G 256 ju Tryz.f256 uW (aY Tryz.prog 256 0) ((d.1,(nn,((IntKind.wrap .i64 ((i:Int)+1)),()))),((),(f,(jy (d.1.take (i+1)) 0,()))))=some y):∀(n j:Nat) (es:List (ab×Int)),j+n=d.1[i].2.1.length→es=jy (d.1.take i) 0++(d.1[i].2.1.take j).map (fun x=>(x,(i:Int))) → LX G 256 ju Tryz.f256 yx (aY Tryz.prog 256 1) (((i:Int),(d.1,(nn,((i:Int),(d.1[i].2.1,(((d.1[i].2.1.length:Nat):Int),((j:Int),()))))))),((),(f,(es,()))))=some y:=by
 have hr:=h.sd d.1[i] (acB hi);have et:d.1.take (i+1)=d.1.take i++[d.1[i]]:=(List.take_append_getElem hi).symm;have ev:jy (d.1.take (i+1)) 0=jy (d.1.take i) 0++d.1[i].2.1.map (fun x=>(x,(i:Int))):=by
  rw[et,MC];have:(d.1.take i).length=i:=by rw[List.length_take];omega
  rw[this,Nat.zero_add];congr 1;show d.1[i].2.1.map (fun x=>(x,(i:Int)))++[]=_;rw[List.append_nil]
 have nd:(an (d.1.take i)++d.1[i].2.1).Nodup:=by
  have h1:=h.rw.n;rw[←List.take_append_drop (i+1) d.1,et,qP,qP]at h1;have e2:an [d.1[i]]=d.1[i].2.1:=by rw[lk];exact List.append_nil _
  rw[e2]at h1;exact(acV.1 h1).1
 intro n
 induction n with
 |zero =>intro j es hj he;refine aB PW ?_;refine ah (decide_eq_false (show ¬((j:Int)<((d.1[i].2.1.length:Nat):Int)) by omega)) ?_;have e:d.1[i].2.1.take j=d.1[i].2.1:=List.take_of_length_le (by omega);rw[e,←ev]at he;subst he;exact next
 |succ n ih =>
  intro j es hj he;have aK:j<d.1[i].2.1.length:=by omega
  refine aB PW ?_;refine ae (bj aK) (aa (aT (aba aK)) ?_);have Gm:d.1[i].2.1[j]∉es.map (·.1):=by
   have e3:((d.1[i].2.1.take j).map fun x=>(x,(i:Int))).map (·.1)=d.1[i].2.1.take j:=by rw[List.map_map];exact List.map_id _
   rw[he,List.map_append,AM,e3,List.mem_append];rintro(k|k)
   ·exact(acV.1 nd).2.2 _ k _ (acB aK) rfl
   ·obtain⟨q,hq,he⟩:=adJ k;have hq1:q<j:=by rw[List.length_take]at hq;omega
    rw[List.getElem_take]at he;have:=(List.getElem_inj (acV.1 nd).2.1).1 he;omega
  have:=ih (j+1) (oO bA d.1[i].2.1[j] (i:Int) es) (by omega) (by rw[Xf _ Gm,he,←List.take_append_getElem aK,List.map_append,List.append_assoc];rfl);rw[←aN aK (by omega)]at this;exact this
theorem ZB(h:Wf d) (next:LX G 256 ju Tryz.f256 rQ (aY Tryz.prog 256 2) ((jy d.1 0,()),((),(fI (List.range d.1.length),((none,jy d.1 0),()))))=some y):∀(n i:Nat),i+n=d.1.length → LX G 256 ju Tryz.f256 uW (aY Tryz.prog 256 0) ((d.1,(((d.1.length:Nat):Int),((i:Int),()))),((),(fI (List.range i),(jy (d.1.take i) 0,()))))=some y:=by
 have hn:=h.nv;intro n
 induction n with
 |zero =>
  intro i hi;have e:i=d.1.length:=by omega
  subst e;refine aB PV ?_;refine ah (decide_eq_false (show ¬(((d.1.length:Nat):Int)<((d.1.length:Nat):Int)) by omega)) ?_;rw[List.take_length];exact next
 |succ n ih =>
  intro i hi;have aK:i<d.1.length:=by omega
  refine aB PV ?_;refine ae (bj aK) (aa (aT (aba aK)) ?_);refine ae (fits (by show(fI (List.range i)).length+1≤_;rw[FE];simp;omega)) ?_;have nx:=ih (i+1) (by omega);rw[←aN aK (by omega),←Xg]at nx;exact ZA (G:=G) h aK nx d.1[i].2.1.length 0 _ (by omega) (by simp)
end
end Go.Vs
namespace Go.Vs
open Go.Proofs
variable {G:(f:FuncId)→(g:aX)→Option (g.A→Option g.B)}
theorem FH(a b:Nat):FG a b a=min a b∧FG a b b=min a b:=by unfold FG;constructor<;>split<;>omega
structure FoI(d:ak)(rem:List (ab×Int))(g:List Nat):Prop where
 f:Fo g
 n:g.length=d.1.length
 c:∀i,i<d.1.length→cJ d (dk d i) (dk d (root g i))
 p:∀(z:ab) (i k:Nat),(z,(i:Int))∈jy d.1 0→(ag z,(k:Int))∈jy d.1 0→(z,(i:Int))∉rem→root g i=root g k
theorem yZ{d:ak}(h:Wf d){z:ab}{a:Int}(hm:(z,a)∈jy d.1 0):∃i:Nat,i<d.1.length∧a=(i:Int)∧z∈an d.1∧bM d z=some (dk d i):=by obtain⟨k,v,h1,h2,h3⟩:=MD hm;rw[Nat.zero_add]at h2;have hv:=ab1 h1;refine⟨k,(abg.1 h1).1,h2,aM.2 ⟨v,hv,h3⟩,?_⟩;rw[pn h1];exact du h.rw hv h3
theorem OZ{d:ak}(h:Wf d){z:ab}(hz:z∈an d.1):∃i:Nat,(z,(i:Int))∈jy d.1 0:=by obtain⟨v,hv,hx⟩:=aM.1 hz;obtain⟨k,hk⟩:=adD hv;have:=QA (i:=0) hk hx;rw[Nat.zero_add]at this;exact⟨k,this⟩
theorem QB{d:ak}(h:Wf d){z:ab}{a:Int}(hm:(z,a)∈jy d.1 0):kd bA z (jy d.1 0)=some a:=by rw[Xe];refine MB ?_ hm;rw[AM];exact h.rw.n
theorem FoI.same{d:ak}(h:Wf d){g:List Nat}(hg:FoI d [] g){a b:ID}(k:cJ d a b):∀i j,i<d.1.length→j<d.1.length→dk d i=a→dk d j=b→root g i=root g j:=by
 induction k with
 |refl=>intro i j hi hj h1 h2;rw[kI h.sv hi hj (h1.trans h2.symm)]
 |tail _ s ih =>
  intro i j hi hj h1 h2;obtain⟨z,hz,s1,s2⟩:=s;obtain⟨m,hm⟩:=OZ h hz;obtain⟨q,hq⟩:=OZ h (h.other hz);obtain⟨m',m1,m2,_,m3⟩:=yZ h hm;obtain⟨q',q1,q2,_,q3⟩:=yZ h hq;have em:m'=m:=by omega
  have eq:q'=q:=by omega
  subst em;subst eq;rw[s1]at m3;rw[s2]at q3;have r1:=ih i m' hi m1 h1 (abK m3).symm;have r2:=hg.p z m' q' hm hq (by simp);have ej:q'=j:=kI h.sv q1 hj ((abK q3).symm.trans h2.symm);rw[r1,r2,ej]
theorem FoI.can{d:ak}(h:Wf d){g:List Nat}(hg:FoI d [] g):Mu d (fI ((List.range d.1.length).map (root g))):=by
 have pN:∀i,i<d.1.length→(fI ((List.range d.1.length).map (root g))).getD i 0=((root g i:Nat):Int):=fun i hi=>by unfold fI;simp[List.getD,hi]
 refine⟨⟨by rw[FE];simp,fun i hi=>⟨root g i,Qz g i,pN i hi,hg.c i hi⟩⟩,fun i hi j hj k=>?_⟩;rw[pN i hi,hg.same h k i j hi hj rfl rfl];have:=Qz g j;omega
theorem ZC(hG:HG G){d:ak}(h:Wf d){g:List Nat}:∀(n i:Nat) (g':List Nat),i+n=d.1.length→Fo g'→g'.length=d.1.length→(∀j,root g' j=root g j) → LX G 256 ju Tryz.f256 yy (aY Tryz.prog 256 3) ((((d.1.length:Nat):Int),((i:Int),())),((),(fI g',(fI ((List.range i).map (root g)),()))))=some ((fI ((List.range d.1.length).map (root g)),()),()):=by
 have Rj:=h.nv;intro n
 induction n with
 |zero =>
  intro i g' hi h1 h2 h3;have e:i=d.1.length:=by omega
  subst e;refine aB PY ?_;exact ah (decide_eq_false (show ¬(((d.1.length:Nat):Int)<((d.1.length:Nat):Int)) by omega)) rfl
 |succ n ih =>
  intro i g' hi h1 h2 h3;have aK:i<d.1.length:=by omega
  obtain⟨g2,s,e⟩:=Xd hG g' i h1 (by omega);refine aB PY ?_;refine ae (bj aK) (aa e ?_);refine ae (fits (by show(fI _).length+1≤_;rw[FE];simp;omega)) ?_;have:=ih (i+1) g2 (by omega) s.f (by rw[s.n,h2]) (fun j=>(s.r j).trans (h3 j));have e2:fI ((List.range (i+1)).map (root g))=fI ((List.range i).map (root g))++[((root g' i:Nat):Int)]:=by rw[List.range_succ,h3 i];simp[fI]
  rw[e2,←aN aK (by omega)]at this;exact this
theorem ZD(hG:HG G){d:ak}(h:Wf d):∀(n:Nat) (rem:List (ab×Int)) (g:List Nat) (o:Option (ab×Int)),rem.length=n→(∀e∈rem,e∈jy d.1 0)→FoI d rem g → LX G 256 ju Tryz.f256 rQ (aY Tryz.prog 256 2) ((jy d.1 0,()),((),(fI g,((o,rem),()))))=some ((labels d,()),()):=by
 intro n
 induction n with
 |zero =>
  intro rem g o hn hr hg;have e:rem=[]:=abU hn;subst e;refine aB PX ?_;refine ae rfl ?_;have:=ZC (G:=G) hG h (g:=g) d.1.length 0 g (by omega) hg.f hg.n (fun _=>rfl);rw[(hg.can h).uniq h (fQ h)]at this;have e2:((fI g).length:Int)=((d.1.length:Nat):Int):=by rw[FE,hg.n]
  rw[←e2]at this;exact this
 |succ n ih =>
  intro rem g o hn hr hg;refine aB PX ?_;refine ah (show rem.isEmpty=false by cases rem with|nil=>simp at hn|cons _ _=>rfl) ?_;refine o8 (show 0<rem.length by omega) fun j hj=>?_;have hj':j<rem.length:=hj;refine aa (aba hj') ?_;have hm:=hr _ (acB hj');generalize he:rem[j]=e at hm;obtain⟨z,a⟩:=e;obtain⟨i,hi,ha,hz,haz⟩:=yZ h hm;subst ha;obtain⟨k,hk⟩:=OZ h (h.other hz);obtain⟨k',zr,ek,_,hak⟩:=yZ h hk;have ek':k'=k:=by omega
  subst ek';refine aa (Mg (hG _ _ rfl) z (h.side hz)) ?_;have pN:kd bA (ag z) (jy d.1 0)=some (k':Int):=QB h hk;refine ae (show(kd bA (ag z) (jy d.1 0)).isSome=true by rw[pN];rfl) ?_;obtain⟨g',h1,h2,h3,h4⟩:=ahd hG g i k' hg.f (by rw[hg.n];exact hi) (by rw[hg.n];exact zr);refine aa (a:=((),(fI g',()))) (by
   have:(kd bA (ag z) (jy d.1 0)).getD (0:Int)=(k':Int):=by rw[pN];rfl
   rw[←this]at h4;exact h4) ?_
  have anf:BS d (dk d i) (dk d k'):=⟨z,hz,haz,hak⟩;have cij:cJ d (dk d (root g i)) (dk d (root g k')):=((hg.c i hi).symm h).trans (anf.conn.trans (hg.c k' zr));refine ih (rem.eraseIdx j) g' _ (by rw[List.length_eraseIdx,if_pos hj'];omega) (fun e he=>hr e (List.mem_of_mem_eraseIdx he)) ⟨h1,h2.trans hg.n,fun q hq=>?_,fun y p q hp hq hy=>?_⟩
  ·rw[h3 q];unfold FG
   split
   ·rename_i e;refine(hg.c q hq).trans ?_;rw[e];rcases Nat.le_total (root g i) (root g k') with hle|hle
    ·rw[Nat.max_eq_right hle,Nat.min_eq_left hle];exact cij.symm h
    ·rw[Nat.max_eq_left hle,Nat.min_eq_right hle];exact cij
   ·exact hg.c q hq
  ·rw[h3 p,h3 q];by_cases oK:(y,(p:Int))∈rem
   ·
    have e:(y,(p:Int))=(z,(i:Int)):=by apply Classical.byContradiction;intro ne;apply hy;rw[List.mem_eraseIdx_iff_getElem];obtain⟨t,ht,hte⟩:=adJ oK;refine⟨t,ht,fun k=>?_,hte⟩;subst k;exact ne (hte.symm.trans he)
    have e1:y=z:=congrArg Prod.fst e;have e2:p=i:=by have:=congrArg Prod.snd e;simp at this;omega
    subst e1;subst e2;have h5:=QB h hq;rw[pN]at h5;have e3:q=k':=by have:=abK h5;omega
    subst e3;rw[(FH _ _).1,(FH _ _).2]
   ·rw[hg.p y p q hp hq oK]
theorem O0(n:Nat):∀i,root (List.range n) i=i:=fun i=>by
 cases h:(List.range n)[i]? with
 |none=>exact nt h
 |some x =>
  have:x=i:=by rw[List.getElem?_range (by have:=(List.getElem?_eq_some_iff.1 h).1;simpa using this)]at h;exact(abK h).symm
  subst this;exact nu h
theorem ahf(hG:HG G)(d:ak)(h:Wf d):FX G 256 ju ((d,()),())=some ((labels d,()),()):=by
 refine aC (hG _ _ rfl) afA ?_;refine ZB (G:=G) h ?_ d.1.length 0 (by omega);refine ZD hG h _ (jy d.1 0) (List.range d.1.length) none rfl (fun _ k=>k) ⟨fun i x hx=>?_,by simp,fun i hi=>?_,fun z i k h1 h2 h3=>absurd h1 h3⟩
 ·have:=(abg.1 hx).1;rw[List.getElem?_range (by simpa using this)]at hx;have:=abK hx;omega
 ·rw[O0];exact .refl _
structure PG(G:(f:FuncId)→(g:aX)→Option (g.A→Option g.B)):Prop where
 h:HG G
 f:∀d,Wf d→FX G 240 BB ((d,()),())=some ((cg d,()),())
 c:∀d,Wf d→FX G 241 BC ((d,()),())=some ((gi d,()),())
theorem ahg(hp:PG G)(d:ak)(h:Wf d):FX G 226 Ls ((d,()),())=some ((((d.1.length:Nat):Int),(((d.2.length:Nat):Int),(((ft d:Nat):Int),(gi d,())))),()):=by
 have hn:=h.nv;have hf:=yY h;have ha:al d.1≤d.1.length:=adQ;refine aC (hp.h _ _ rfl) aft ?_;refine aa (Xb hp.h d.1 (by omega)) ?_;refine aa (hp.f d h) (aa (hp.c d h) ?_);have e:IntKind.wrap .i64 ((((cg d).length:Nat):Int)+((al d.1:Nat):Int))=((ft d:Nat):Int):=by rw[wrap_small (by omega) (by omega)];rfl
 exact congrArg (fun n:Int=>some ((((d.1.length:Nat):Int),(((d.2.length:Nat):Int),(n,(gi d,())))),())) e
theorem ahh(hp:PG G)(d:ak)(h:Wf d):FX G 204 Ln ((d,()),())=some ((bN d,()),()):=by
 have hn:=h.nv;have bp:=h.ne;have hf:=yY h;have ha:al d.1≤d.1.length:=adQ;refine aC (hp.h _ _ rfl) afi ?_;refine aa (ahg hp d h) (ah rfl ?_);have hr:=mo h (fQ h);obtain⟨k,e1,e2⟩:=FC h hr;have ec:=vj h;have TG:(mF d (labels d)).length≤d.1.length:=by unfold mF;rw[List.length_map];refine acH (adx _ _) ?_;simp
 have hft:ft d≤80+d.1.length:=by unfold ft;omega
 refine congrArg (fun n:Int=>some ((n,()),())) ?_;show IntKind.wrap .i64 (gi d-IntKind.wrap .i64 (Int.tdiv (IntKind.wrap .i64 ((IntKind.wrap .i64 (((d.1.length:Nat):Int)-((d.2.length:Nat):Int)))+((ft d:Nat):Int))) 2))=bN d;rw[e1,ec];have hk:(k:Int)≤1000:=by omega
 rw[wrap_small (n:=((d.1.length:Nat):Int)-((d.2.length:Nat):Int)) (by omega) (by omega)];rw[wrap_small (n:=((d.1.length:Nat):Int)-((d.2.length:Nat):Int)+((ft d:Nat):Int)) (by omega) (by omega)];have e3:((d.1.length:Nat):Int)-((d.2.length:Nat):Int)+((ft d:Nat):Int)=2*((((mF d (labels d)).length:Nat):Int)-(k:Int)):=by omega
 rw[e3,Int.mul_tdiv_cancel_left _ (by decide)];rw[wrap_small (n:=(((mF d (labels d)).length:Nat):Int)-(k:Int)) (by omega) (by omega)];rw[wrap_small (by omega) (by omega)];omega
theorem ZE(hp:PG G):OT G:=fun d h=>by refine aC (hp.h _ _ rfl) ae1 ?_;refine aa (ahh hp d h) ?_;refine congrArg (fun b:Bool=>some ((b,()),())) ?_;show(bN d==0)=decide (bN d=0);rw[Bool.eq_iff_iff];simp
end Go.Vs
