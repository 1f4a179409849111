/- What the program computes of -/
import Derived.Test.YtoleelddkocpkaaGreatEuler
set_option linter.unusedVariables false
set_option linter.unusedSimpArgs false
namespace Go.Vs
open Go.Proofs
variable {G:(f:FuncId)→(g:aO)→Option (g.A→Option g.B)}
theorem N3(w:ai)(r:List ai)(x:ID):aR (w::r) x=if w.1=x then some w else aR r x:=by unfold aR;rw[List.find?_cons];by_cases h:w.1=x<;>simp[h]
theorem Wy(hG:HG G)(l:List ai)(x:ID)(hl:l.length≤1073741824):FX G 136215 lF ((l,x,()),())=some (rS zV (aR l x),()):=by
 refine av (hG _ _ rfl) Vo ?_;have loop:∀(n i:Nat),i+n=l.length→LX G 136215 lF Tryz.f215 nt (aK Tryz.prog 215 0) ((l,(((l.length:Nat):Int),((i:Int),()))),(((x,()),(((0:Int),((0:Int),(([]:List ab),(e0,((0:Int),()))))),())),()))=some (rS zV (aR (l.drop i) x),()):=by
  intro n
  induction n with
  |zero =>intro i hi;refine ar DZ ?_;refine af (decide_eq_false (show ¬((i:Int)<((l.length:Nat):Int)) by omega)) ?_;rw[List.drop_eq_nil_of_le (by omega)];rfl
  |succ n ih =>
   intro i hi;have aN:i<l.length:=by omega
   have amC:FX G 135 Dx ((l[i],()),())=some ((l[i].1,()),()):=av (hG _ _ rfl) aaE rfl;refine ar DZ ?_;refine ae (aT aN) (aa (aB (aa8 aN)) ?_);refine aa amC ?_;rw[List.drop_eq_getElem_cons aN,N3];by_cases he:l[i].1=x
   ·rw[if_pos he];exact ae ((lN l[i].1 x).trans (decide_eq_true he)) rfl
   ·rw[if_neg he];refine af ((lN l[i].1 x).trans (decide_eq_false he)) ?_;have:=ih (i+1) (by omega);rw[←aD aN hl]at this;exact this
 have:=loop l.length 0 (by omega);rw[List.drop_zero]at this;exact this
theorem agJ(hG:HG G)(d:ak)(x:ID)(hs:Sm d):FX G 192 KT ((d,x,()),())=some (rS zV (bq d x),()):=by
 have hv:=hs.v;refine av (hG _ _ rfl) ae1 ?_;refine aa (Wy hG d.1 x (by omega)) ?_;unfold bq
 cases hf:aR d.1 x with
 |none=>exact aa (acq (hG _ _ rfl) [] (by simp)) rfl
 |some v=>exact aa (acq (hG _ _ rfl) v.2.1 (hs.r v (eQ hf))) rfl
theorem Wz(w:ai)(r:List ai)(x:ab):Fb (w::r) x=if x∈w.2.1 then some w.1 else Fb r x:=by unfold Fb;rw[List.find?_cons];by_cases h:x∈w.2.1<;>simp[h]
theorem aa0(hG:HG G)(d:ak)(x:ab)(hs:Sm d):FX G 216 xz ((d,x,()),())=some (rS zI (cf d x),()):=by
 have hv:=hs.v;refine av (hG _ _ rfl) afe ?_;have loop:∀(n i:Nat),i+n=d.1.length→LX G 216 xz Tryz.f216 xM (aK Tryz.prog 216 0) ((d.1,(((d.1.length:Nat):Int),((i:Int),()))),(((x,()),((zI,()),())),()))=some (rS zI (Fb (d.1.drop i) x),()):=by
  intro n
  induction n with
  |zero =>intro i hi;refine ar Pj ?_;refine af (decide_eq_false (show ¬((i:Int)<((d.1.length:Nat):Int)) by omega)) ?_;rw[List.drop_eq_nil_of_le (by omega)];rfl
  |succ n ih =>
   intro i hi;have aN:i<d.1.length:=by omega
   refine ar Pj ?_;refine ae (aT aN) (aa (aB (aa8 aN)) ?_);refine aa (Hi hG d.1[i].2.1 x (by have:=hs.r _ (acV aN);omega)) ?_;rw[List.drop_eq_getElem_cons aN,Wz];by_cases he:x∈d.1[i].2.1
   ·rw[if_pos he];exact ae (decide_eq_true he) rfl
   ·rw[if_neg he];refine af (decide_eq_false he) ?_;have:=ih (i+1) (by omega);rw[←aD aN (by omega)]at this;exact this
 have:=loop d.1.length 0 (by omega);rw[List.drop_zero]at this;exact this
def Su(x:ab):List ax→Int→Int
 |[],_ => -1
 |g::r,i=>if g.1=x then i else Su x r (i+1)
theorem L9(x:ab):∀(l:List ax) (i:Nat),(Su x l i = -1∧ic l x=none)∨∃k g,Su x l (i:Int)=((i+k:Nat):Int)∧l[k]? = some g∧ic l x=some g.2
 |[],i=>.inl ⟨rfl,rfl⟩
 |g::r,i=>by
  rw[Su,rr];by_cases h:g.1=x
  ·rw[if_pos h,if_pos h];exact .inr ⟨0,g,by simp,by simp,rfl⟩
  ·rw[if_neg h,if_neg h];have e:(i:Int)+1=((i+1:Nat):Int):=by omega
   rw[e];rcases L9 x r (i+1) with⟨h1,h2⟩|⟨k,q,h1,h2,h3⟩
   ·simp_all
   ·exact .inr ⟨k+1,q,by omega,by simpa using h2,h3⟩
theorem WA(hG:HG G)(l:List ax)(x:ab)(hl:l.length≤1073741824):FX G 232230 jY ((l,()),((x,()),()))=some ((Su x l 0,()),((x,()),())):=by
 refine av (hG _ _ rfl) Vq ?_;have loop:∀(n i:Nat),i+n=l.length→LX G 232230 jY Tryz.f230 kH (aK Tryz.prog 230 0) ((l,(((l.length:Nat):Int),((i:Int),()))),(((x,()),()),()))=some ((Su x (l.drop i) i,()),((x,()),())):=by
  intro n
  induction n with
  |zero =>intro i hi;refine ar D1 ?_;refine af (decide_eq_false (show ¬((i:Int)<((l.length:Nat):Int)) by omega)) ?_;rw[List.drop_eq_nil_of_le (by omega)];rfl
  |succ n ih =>
   intro i hi;have aN:i<l.length:=by omega
   have amD:FX G 231 KY ((l[i],()),((x.1.1,(x.1.2,(x.2,()))),()))=some (((((l[i].1.1.1==x.1.1)&&(l[i].1.1.2==x.1.2))&&(l[i].1.2==x.2)),()),((x.1.1,(x.1.2,(x.2,()))),())) :=av (hG _ _ rfl) afj rfl;refine ar D1 ?_;refine ae (aT aN) (aa (aB (aa8 aN)) ?_);refine aa amD ?_;rw[List.drop_eq_getElem_cons aN,Su];by_cases he:l[i].1=x
   ·rw[if_pos he];exact ae ((lO l[i].1 x).trans (decide_eq_true he)) rfl
   ·rw[if_neg he];refine af ((lO l[i].1 x).trans (decide_eq_false he)) ?_;have:=ih (i+1) (by omega);have e:=aD aN hl;show LX G 232230 jY Tryz.f230 kH (aK Tryz.prog 230 0) ((l,(((l.length:Nat):Int),(IntKind.wrap .i64 ((i:Int)+1),()))),(((x,()),()),()))=some ((Su x (l.drop (i+1)) ((i+1:Nat):Int),()),((x,()),()))
    grind
 have:=loop l.length 0 (by omega);rw[List.drop_zero]at this;exact this
theorem agK(hG:HG G)(l:List ax)(x:ab)(hl:l.length≤1073741824):FX G 217 KW ((l,x,()),())=some (rS zD (ic l x),()):=by
 refine av (hG _ _ rfl) aff ?_;refine aa (WA hG l x hl) ?_;rcases L9 x l 0 with⟨h1,h2⟩|⟨k,g,h1,h2,h3⟩
 ·have h1:Su x l 0 = -1:=h1;rw[h2];exact ae (decide_eq_true (show Su x l 0<0 by omega)) rfl
 ·have h1:Su x l 0=(k:Int):=by simp_all
  rw[h3];refine af (decide_eq_false (show ¬Su x l 0<0 by omega)) ?_;refine aa (show aU l (Su x l 0)=some g by grind [aB]) ?_;rfl
theorem agL(hG:HG G)(s:StateT)(x:ab)(hs:Sm s.1)(hg:s.2.length≤50000000):FX G 193 AW ((s,x,()),())=some ((resolve s x,()),()):=by
 refine av (hG _ _ rfl) ae2 ?_;have hw:IntKind.wrap .i64 (((s.2.length:Nat):Int)+1)=((s.2.length+1:Nat):Int):=by grind [wrap_small]
 have loop:∀(n i:Nat) (y:ab),i+n=s.2.length+1→LX G 193 AW Tryz.f193 xI (aK Tryz.prog 193 0) (((IntKind.wrap .i64 (((s.2.length:Nat):Int)+1)),((i:Int),())),(((s,()),((y,()),((zD,()),()))),()))=some ((res s.1 s.2 n y,()),()):=by
  intro n
  induction n with
  |zero =>intro i y hi;refine ar Pe ?_;exact af (decide_eq_false (show ¬((i:Int)<IntKind.wrap .i64 (((s.2.length:Nat):Int)+1)) by rw[hw];omega)) rfl
  |succ n ih =>
   intro i y hi;refine ar Pe ?_;refine ae (decide_eq_true (show((i:Int)<IntKind.wrap .i64 (((s.2.length:Nat):Int)+1)) by rw[hw];omega)) ?_;refine aa (aa0 hG s.1 y hs) ?_;rw[res];have h1:(rS zI (cf s.1 y)).2.1=(cf s.1 y).isSome:=je _ _
   cases ha:(cf s.1 y).isSome
   ·rw[if_neg (by simp)];refine af (h1.trans ha) ?_;refine aa (agK hG s.2 y (by omega)) ?_
    cases hf:ic s.2 y with
    |none=>rfl
    |some z =>
     refine af rfl ?_;have:=ih (i+1) z (by omega);have e:IntKind.wrap .i64 ((i:Int)+1)=((i+1:Nat):Int):=by grind [wrap_small]
     rw[←e]at this;exact this
   ·rw[if_pos rfl];exact ae (h1.trans ha) rfl
 exact loop (s.2.length+1) 0 x (by omega)
theorem agM(hG:HG G)(s:StateT)(c:rN)(hs:Sm s.1)(hg:s.2.length≤50000000):FX G 157 KQ ((s,c,()),())=some (bC s c,()):=by
 refine av (hG _ _ rfl) aeN ?_;refine aa (agJ hG s.1 c.1 hs) ?_;unfold bC
 cases hf:bq s.1 c.1 with
 |none=>rfl
 |some v =>
  refine af rfl ?_;refine aa (agL hG s c.2 hs hg) ?_;refine aa (Hi hG v.2.1 (resolve s c.2) (by have:=hs.r v (eQ hf);omega)) ?_;show _=some (((c.1,ye s c v),((0:Int),())),());unfold ye;by_cases hm:resolve s c.2∈v.2.1
  ·simp_all
  ·rw[if_neg hm];exact bA (decide_eq_false hm) rfl
def oT(G:(f:FuncId)→(g:aO)→Option (g.A→Option g.B)):Prop:=∀d,Wf d→FX G 96 AT ((d,()),())=some ((decide (bL d=0),()),())
theorem PQ{l:List ai}{e:List ag}{c:rN}{v:ai}(hs:cc l)(hf:aR l c.1=some v)(x:ab):l.set (bU l c.1) (v.1,(nQ v.2.1 c.2 x,v.2.2))=(bV (l,e) c x).1:=by
 grind [NU,dr,iR,eQ,bV,Vs.ck,kQ]
theorem EG{d:ak}(h:Wf d):qY d.1 d.2=true:=by unfold qY;have h1:=h.nv;have h2:=h.ne;simp only[Bool.and_eq_true,decide_eq_true_eq,List.all_eq_true];exact⟨by omega,by omega,fun v hv=>by have:=h.rv v hv;omega⟩
theorem Zb(hG:HG G)(hp:oT G)(o:br):kb G o:=by
 intro s h hm Te;have MU:=h.d.nv;have bB:=h.d.ne;have hn:=h.n;have Y7:=h.d.small;have bM:=V8 hm;have start:∀(e:Int) (w:aX),bH 114 q7 Tryz.f114 (FX G) (LX G 114 q7 Tryz.f114) ((o,()),(aP s,()))=some ((e,()),(w,()))→FX G 114 q7 ((o,()),(aP s,()))=some ((e,()),(w,())):=fun e w a =>av (hG _ _ rfl) a rfl;have f110:=aaT hG (aP s) (bf o) h.d.se (by show s.1.2.length≤_;omega);unfold ox
 cases hf:(ba s.1.2 (bf o)).isSome with
 |true =>have e1:vH (aP s) (bf o)=(12,aP s):=if_pos hf;rw[e1]at f110;refine⟨12,aP s,start _ _ ((ab0).trans (ae (EG h.d) (aa f110 (ae rfl rfl)))),?_⟩;rw[if_pos (show(hP s.1 (bf o)).isSome=true from hf)];rfl
 |false =>
 rw[if_neg (show ¬(hP s.1 (bf o)).isSome=true by show ¬(ba s.1.2 (bf o)).isSome=true;rw[hf];simp)];by_cases h40:40≤s.1.2.length
 ·have e1:vH (aP s) (bf o)=(3,aP s):=(if_neg (show ¬(ba s.1.2 (bf o)).isSome=true by rw[hf];simp)).trans (if_pos h40);rw[e1]at f110;refine⟨3,aP s,start _ _ ((ab0).trans (ae (EG h.d) (aa f110 (ae rfl rfl)))),?_⟩;rw[if_pos h40];rfl
 rw[if_neg h40];obtain⟨E,hE⟩:∃E,E=dL (bf o,(e0,0)) s.1.2:=⟨_,rfl⟩;have e1:vH (aP s) (bf o)=(0,(s.1.1,(E,(s.2,())))):=by rw[hE];exact(if_neg (show ¬(ba s.1.2 (bf o)).isSome=true by rw[hf];simp)).trans (if_neg h40)
 rw[e1]at f110;obtain⟨x,hx⟩:∃x:ab,x=(bf o,0):=⟨_,rfl⟩;obtain⟨y,hy⟩:∃y:ab,y=(bf o,1):=⟨_,rfl⟩;have f111:FX G 156 Dp ((bf o,()),())=some ((x,y,()),()):=by rw[hx,hy];exact av (hG _ _ rfl) aaD rfl
 have f112:=fun c:rN=>agM hG s c h.d.sm (by omega);have go:∀(e:Int) (w:aX),LX G 114 q7 Tryz.f114 nr (aK Tryz.prog 114 0) (((2:Int),((0:Int),())),(((s.1.1,(E,(s.2,()))),((s,()),((x,()),()))),([x,y],([oA o,oB o],()))))=some ((e,()),(w,()))→FX G 114 q7 ((o,()),(aP s,()))=some ((e,()),(w,())):=fun e w a =>start _ _ ((ab0).trans (ae (EG h.d) (aa f110 (af rfl (aa f111 a)))));by_cases hA:(bC s (oA o)).2.1=0
 case neg =>
  rw[if_pos hA];have amE:bC s (oA o)=(zC,(13,())):=by
   unfold bC at hA ⊢
   grind
  refine⟨13,(s.1.1,(E,(s.2,()))),go _ _ ?_,rfl⟩;refine ar zF ?_;refine ae rfl (ae rfl (aa (a:=oA o) rfl (aa (f112 (oA o)) ?_)));rw[amE];rfl
 rw[if_neg (fun k=>k hA)];obtain⟨va,ca⟩:=ru hA;obtain⟨cA,hcA⟩:∃c:rN,c=(bC s (oA o)).1:=⟨_,rfl⟩;have eA:bC s (oA o)=(cA,(0,())):=by
  grind
 have cAv:(aR s.1.1 cA.1).isSome=true:=by rw[hcA,ca];exact va
 obtain⟨v1,yY⟩:=acu.1 cAv;have acD:=eQ yY;obtain⟨d1,Sc⟩:∃d1:ak,d1=bV (s.1.1,E) cA x:=⟨_,rfl⟩;have amF:s.1.1.set (bU s.1.1 cA.1) (v1.1,(nQ v1.2.1 cA.2 x,v1.2.2))=d1.1:=by rw[Sc];exact PQ h.d.sv yY x
 have d1s:cc d1.1:=by rw[Sc];exact h.d.sv.re _ _
 have hl1:=(abC.1 (dr h.d.sv yY)).1;have aa1:∀v∈d1.1,v.2.1.length≤50000000:=fun v hv=>by
  rw[Sc]at hv;obtain⟨w,hw,rfl⟩:=acn.1 (show v∈s.1.1.map (uH cA.1 (nQ (bI (s.1.1,E) cA.1) cA.2 x)) from hv);have h1:=h.d.rv w hw;unfold uH
  split
  ·have h2:=A8 (bI (s.1.1,E) cA.1) cA.2 x;have h3:(bI (s.1.1,E) cA.1).length≤80:=by rw[←iR yY,kQ (d:=(s.1.1,E)) h.d.sv acD];exact h.d.rv v1 acD
   grind
  ·omega
 have d1l:d1.1.length=s.1.1.length:=by grind
 have aa2:∀(e:Int) (w:aX),LX G 114 q7 Tryz.f114 nr (aK Tryz.prog 114 0) (((2:Int),((1:Int),())),(((d1.1,(E,(s.2,()))),((s,()),((x,()),()))),([x,y],([oA o,oB o],()))))=some ((e,()),(w,()))→FX G 114 q7 ((o,()),(aP s,()))=some ((e,()),(w,())):=fun e w a=>by
  refine go _ _ ?_;refine ar zF ?_;refine ae rfl (ae rfl (aa (a:=oA o) rfl (aa (f112 (oA o)) ?_)));rw[eA];refine af rfl (af rfl ?_);refine aa (rT hG (s.1.1,(E,(s.2,()))) cA.1 h.d.sv Y7.n) ?_;refine ae (cP (fK _) (aT hl1)) (aa (dr h.d.sv yY) ?_);refine ae rfl (aa (a:=x) rfl ?_);refine aa (V6 hG v1.2.1 cA.2 x (Y7.r v1 acD)) ?_;refine aa (dr h.d.sv yY) ?_;have key:∀a1:List ai,a1=d1.1→LX G 114 q7 Tryz.f114 nr (aK Tryz.prog 114 0) (((2:Int),((1:Int),())),(((a1,(E,(s.2,()))),((s,()),((x,()),()))),([x,y],([oA o,oB o],()))))=some ((e,()),(w,())):=fun a1 Tg=>by grind
  exact key _ amF
 by_cases hB:(bC s (oB o)).2.1=0
 case neg =>
  rw[if_pos hB];have amG:bC s (oB o)=(zC,(13,())):=by
   unfold bC at hB ⊢
   cases hv:bq s.1 (oB o).1 with
   |none=>rfl
   |some v=>grind
  refine⟨13,(d1.1,(E,(s.2,()))),aa2 _ _ ?_,rfl⟩;refine ar zF ?_;refine ae rfl (ae rfl (aa (a:=oB o) rfl (aa (f112 (oB o)) ?_)));rw[amG];rfl
 rw[if_neg (fun k=>k hB)];obtain⟨vb,cb⟩:=ru hB;obtain⟨cB,hcB⟩:∃c:rN,c=if(bq s.1 (oB o).1).isSome=true∧(oB o).2=(bf o,0) then oB o else(bC s (oB o)).1:=⟨_,rfl⟩
 have eB:bC s (oB o)=((bC s (oB o)).1,(0,())):=by
  grind
 have cB1:cB.1=(oB o).1:=by rw[hcB];split;rfl;exact cb
 have cBv:(aR d1.1 cB.1).isSome=true:=by rw[Sc];exact yl _ (by rw[cB1];exact vb)
 obtain⟨v2,BI⟩:=acu.1 cBv;have agO:=eQ BI;have vU:=(abC.1 (dr d1s BI)).1;obtain⟨d2,hd2⟩:∃d2:ak,d2=bV d1 cB y:=⟨_,rfl⟩;have Zd:d1.1.set (bU d1.1 cB.1) (v2.1,(nQ v2.2.1 cB.2 y,v2.2.2))=d2.1:=by grind [PQ]
 have aa3:ig s o=d2:=by rw[hd2,Sc,hcA,hcB,hx,hy,hE];rfl
 have hE2:d2.2=E:=by rw[hd2,Sc];rfl
 have hwf:Wf d2:=by
  rw[←aa3];unfold ig;have hn0:ba s.1.2 (bf o)=none:=by simpa using hf
  refine h.d.link bM hn0 h40 (by grind) ?_;rw[←hcB,cB1];exact vb
 have last:∀(e:Int) (w:aX),LX G 114 q7 Tryz.f114 nr (aK Tryz.prog 114 0) (((2:Int),((2:Int),())),(((d2.1,(E,(s.2,()))),((s,()),((x,()),()))),([x,y],([oA o,oB o],()))))=some ((e,()),(w,()))→FX G 114 q7 ((o,()),(aP s,()))=some ((e,()),(w,())):=fun e w a=>by
  refine aa2 _ _ ?_;refine ar zF ?_;refine ae rfl (ae rfl (aa (a:=oB o) rfl (aa (f112 (oB o)) ?_)));rw[eB];have key:∀a2:List ai,a2=d2.1→LX G 114 q7 Tryz.f114 nr (aK Tryz.prog 114 0) (((2:Int),((2:Int),())),(((a2,(E,(s.2,()))),((s,()),((x,()),()))),([x,y],([oA o,oB o],()))))=some ((e,()),(w,())):=fun a2 Th=>by grind
  refine af rfl (ae rfl ?_);have r8:=lO (oB o).2 x;by_cases hbe:(oB o).2=x
  ·have ecB:cB=oB o:=by grind
   refine ae (r8.trans (decide_eq_true hbe)) ?_;rw[ecB]at BI vU Zd;refine aa (rT hG (d1.1,(E,(s.2,()))) (oB o).1 d1s (by grind)) ?_;refine ae (cP (fK _) (aT vU)) (aa (dr d1s BI) ?_);refine ae rfl (aa (a:=y) rfl ?_);refine aa (V6 hG v2.2.1 (oB o).2 y (aa1 v2 agO)) ?_;refine aa (dr d1s BI) ?_;exact key _ Zd
  ·have ecB:cB=(bC s (oB o)).1:=by grind
   refine af (r8.trans (decide_eq_false hbe)) ?_;rw[ecB]at BI vU Zd;refine aa (rT hG (d1.1,(E,(s.2,()))) (bC s (oB o)).1.1 d1s (by grind)) ?_;refine ae (cP (fK _) (aT vU)) (aa (dr d1s BI) ?_);refine ae rfl (aa (a:=y) rfl ?_);refine aa (V6 hG v2.2.1 (bC s (oB o)).1.2 y (aa1 v2 agO)) ?_;refine aa (dr d1s BI) ?_;exact key _ Zd
 have f114:=hp d2 hwf;rw[aa3];have e2:(d2.1,E)=d2:=by rw[←hE2]
 by_cases hg:bL d2=0
 ·rw[if_neg (fun k=>k hg)];refine⟨0,(d2.1,(E,(s.2,()))),last _ _ ?_,?_⟩
  ·refine ar zF ?_;refine af rfl ?_;have key:∀q:ak,q=d2→((FX G 96 AT ((q,()),())).bind fun(IL:((Bool×Unit)×Unit))=>cond (not IL.1.1) (some (((15:Int),()),((d2.1,(E,(s.2,()))),()))) (some (((0:Int),()),((d2.1,(E,(s.2,()))),()))))=some (((0:Int),()),((d2.1,(E,(s.2,()))),())):=fun q hq=>by subst hq;exact aa f114 (bA (decide_eq_true hg) rfl)
   exact key _ e2
  ·show(B8 (d2.1,(E,(s.2,()))),((0:Int),()))=((d2,s.2),(0,()));show(((d2.1,E),s.2),((0:Int),()))=((d2,s.2),(0,()));rw[e2]
 ·rw[if_pos hg];refine⟨15,(d2.1,(E,(s.2,()))),last _ _ ?_,rfl⟩;refine ar zF ?_;refine af rfl ?_;have key:∀q:ak,q=d2→((FX G 96 AT ((q,()),())).bind fun(IL:((Bool×Unit)×Unit))=>cond (not IL.1.1) (some (((15:Int),()),((d2.1,(E,(s.2,()))),()))) (some (((0:Int),()),((d2.1,(E,(s.2,()))),()))))=some (((15:Int),()),((d2.1,(E,(s.2,()))),())):=fun q hq=>by subst hq;exact aa f114 (bA (decide_eq_false hg) rfl)
  exact key _ e2
theorem agP(hG:HG G)(row:List ab)(d:ab)(hl:row.length≤100000000):FX G 245 K1 ((row,d,()),())=some (Lu (dG row d 1),()):=by
 refine av (hG _ _ rfl) afr ?_;have key:FX G 221 Dy ((row,(d,((1:Int),()))),())=some (Lu (dG row d 1),()):=by
  refine av (hG _ _ rfl) aaF ?_;refine aa (Ei (hG _ _ rfl) row d (by omega)) ?_;unfold dG;by_cases hd:d∈row
  ·rw[if_pos hd];obtain⟨k,h1,h2,h3⟩:=eV hd;have aN:=(abC.1 h2).1;refine af (decide_eq_false (show ¬idx d row 0<0 by omega)) ?_;refine af (I3 hd) ?_;have Lh:IntKind.wrap .i64 (idx d row 0+1)=((k+1:Nat):Int):=by grind [wrap_small]
   have zL:(k+1)%row.length<row.length:=adJ _ (by omega);have hx:=aa8 zL;refine aa (show aU row (Int.tmod (IntKind.wrap .i64 (idx d row 0+1)) ((row.length:Nat):Int))=some row[(k+1)%row.length] by rw[Lh,tn];exact aB hx) ?_;rw[h1,Int.toNat_natCast,hx];rfl
  ·rw[if_neg hd];exact ae (decide_eq_true (fq.2 hd)) rfl
 refine aa key ?_;rfl
def Ma(x:ab):List ai→Option ab
 |[]=>none
 |v::r=>if x∈v.2.1 then dG v.2.1 x 1 else Ma x r
theorem PR{l:List ai}(h:Rw l){v:ai}{x:ab}(hv:v∈l)(hx:x∈v.2.1):∀r,(∀u∈r,u∈l)→v∈r→Ma x r=dG v.2.1 x 1
 |[],_,k=>by cases k
 |u::r,hs,k=>by
  rw[Ma];by_cases hu:x∈u.2.1
  ·rw[if_pos hu,h.one hv (hs u List.mem_cons_self) hx hu]
  ·rw[if_neg hu];rcases abD.1 k with e|k
   ·rw[e]at hx;exact absurd hx hu
   ·exact PR h hv hx r (fun w hw=>hs w (abA _ hw)) k
theorem HE{x:ab}:∀{l:List ai},x∉an l→Ma x l=none
 |[],_=>rfl
 |v::r,h=>by simp_all [fg,List.mem_append,Ma,if_neg,HE]
theorem N4{d:ak}(h:Rw d.1)(x:ab):Ma x d.1=km d x:=by
 by_cases hx:x∈an d.1
 ·obtain⟨v,hv,oY⟩:=aS.1 hx
  grind [Ew,PR]
 grind [HE,km,cf,LN]
theorem agQ(hG:HG G)(d:ak)(x:ab)(hs:Sm d)(h:Rw d.1):FX G 240 A1 ((d,x,()),())=some (Lu (km d x),()):=by
 have hv:=hs.v;rw[←N4 h x];refine av (hG _ _ rfl) afo ?_;have loop:∀(n i:Nat),i+n=d.1.length→LX G 240 A1 Tryz.f240 xR (aK Tryz.prog 240 0) ((d.1,(((d.1.length:Nat):Int),((i:Int),()))),(((x,()),((zD,()),())),()))=some (Lu (Ma x (d.1.drop i)),()):=by
  intro n
  induction n with
  |zero =>intro i hi;refine ar Pr ?_;refine af (decide_eq_false (show ¬((i:Int)<((d.1.length:Nat):Int)) by omega)) ?_;rw[List.drop_eq_nil_of_le (by omega)];rfl
  |succ n ih =>
   intro i hi;have aN:i<d.1.length:=by omega
   refine ar Pr ?_;refine ae (aT aN) (aa (aB (aa8 aN)) ?_);refine aa (agP hG d.1[i].2.1 x (by have:=hs.r _ (acV aN);omega)) ?_;rw[List.drop_eq_getElem_cons aN,Ma];by_cases he:x∈d.1[i].2.1
   ·rw[if_pos he];unfold dG;rw[if_pos he];obtain⟨k,h1,h2,h3⟩:=eV he;have hl:=(abC.1 h2).1;have hm:((idx x d.1[i].2.1 0).toNat+1)%d.1[i].2.1.length<d.1[i].2.1.length:=adJ _ (by omega);rw[List.getElem?_eq_getElem hm];rfl
   ·rw[if_neg he];unfold dG;rw[if_neg he];refine af rfl ?_;have:=ih (i+1) (by omega);rw[←aD aN (by omega)]at this;exact this
 have:=loop d.1.length 0 (by omega);rw[List.drop_zero]at this;exact this
theorem at_mem{d:ak}{x:ab}(h:(cf d x).isSome=true):x∈an d.1:=by
 apply Classical.byContradiction
 grind [cf,LN]
theorem agR(hG:HG G)(d:ak)(x:ab)(h:Wf d):FX G 235 GZ ((d,x,()),())=some (Lu (JF d x),()):=by
 have hs:=h.sm;refine av (hG _ _ rfl) afm ?_;refine aa (aa0 hG d x hs) ?_;have h1:(rS zI (cf d x)).2.1=(cf d x).isSome:=je _ _;unfold JF
 cases ha:(cf d x).isSome
 ·rw[if_neg (by simp)];exact bA (h1.trans ha) rfl
 ·rw[if_pos rfl];refine bA (h1.trans ha) ?_;refine aa (LS (hG _ _ rfl) x (h.side (at_mem ha))) ?_;exact aa (agQ hG d (aj x) hs h.rw) rfl
theorem agS(hG:HG G)(d:ak)(hs:Sm d):FX G 223 xC ((d,()),())=some ((fw d.2,()),()):=by
 have he:=hs.e;refine av (hG _ _ rfl) afl ?_;have loop:∀(n i:Nat) (out:List ab),i+n=d.2.length→out.length=2*i→LX G 223 xC Tryz.f223 xN (aK Tryz.prog 223 0) ((d.2,(((d.2.length:Nat):Int),((i:Int),()))),((),(out,())))=some ((out++fw (d.2.drop i),()),()):=by
  intro n
  induction n with
  |zero =>intro i out hi ho;refine ar Pk ?_;refine af (decide_eq_false (show ¬((i:Int)<((d.2.length:Nat):Int)) by omega)) ?_;rw[List.drop_eq_nil_of_le (by omega)];show some ((out,()),())=some ((out++[],()),());simp_all
  |succ n ih =>
   intro i out hi ho;have aN:i<d.2.length:=by omega
   refine ar Pk ?_;refine ae (aT aN) (aa (aB (aa8 aN)) ?_);refine aa (LS (hG _ _ rfl) (d.2[i].1,0) (.inl rfl)) ?_;refine ae (fits (by show out.length+2≤_;omega)) ?_;have:=ih (i+1) (out++[(d.2[i].1,0),(d.2[i].1,1)]) (by omega) (by simp[ho];omega);rw[List.drop_eq_getElem_cons aN];rw[←aD aN (by omega),List.append_assoc]at this;exact this
 exact loop d.2.length 0 [] (by omega) rfl
theorem WB(hG:HG G)(l:List ai)(hl:l.length≤50000000):FX G 207205 lG ((l,()),())=some ((((al l:Nat):Int),()),()):=by
 refine av (hG _ _ rfl) Vr ?_;have loop:∀(n i m:Nat),i+n=l.length→m≤i→LX G 207205 lG Tryz.f205 kI (aK Tryz.prog 205 0) (((m:Int),(l,(((l.length:Nat):Int),((i:Int),())))),((),()))=some ((((m+al (l.drop i):Nat):Int),()),()):=by
  intro n
  induction n with
  |zero =>intro i m hi hm;refine ar D2 ?_;refine af (decide_eq_false (show ¬((i:Int)<((l.length:Nat):Int)) by omega)) ?_;rw[List.drop_eq_nil_of_le (by omega)];rfl
  |succ n ih =>
   intro i m hi hm;have aN:i<l.length:=by omega
   have amJ:FX G 206 KZ ((l[i],()),())=some ((l[i].2.1.isEmpty,()),()):=by
    refine av (hG _ _ rfl) afk ?_;have:(((l[i].2.1.length:Nat):Int)==0)=l[i].2.1.isEmpty:=by cases l[i].2.1<;>simp;omega
    exact congrArg (fun b:Bool=>some ((b,()),())) this
   refine ar D2 ?_;refine ae (aT aN) (aa (aB (aa8 aN)) ?_);refine aa amJ ?_;rw[List.drop_eq_getElem_cons aN];unfold al;rw[List.countP_cons]
   cases hb:l[i].2.1.isEmpty
   ·refine af rfl ?_;have:=ih (i+1) m (by omega) (by omega);rw[←aD aN (by omega)]at this;exact this
   ·refine ae rfl ?_;have:=ih (i+1) (m+1) (by omega) (by omega);rw[←aD aN (by omega),←aD (i:=m) (n:=l.length) (by omega) (by omega)]at this;refine this.trans ?_;refine congrArg (fun q:Nat=>some ((((q:Nat):Int),()),())) ?_
    grind [al]
 have:=loop l.length 0 0 (by omega) (by omega);rw[List.drop_zero,Nat.zero_add]at this;exact this
def Fo(g:List Nat):Prop:=∀(i x:Nat),g[i]? = some x→x≤i
def root(g:List Nat)(i:Nat):Nat :=match g[i]? with
 |some x=>if h:x<i then root g x else i
 |none=>i
termination_by i
theorem eR{g:List Nat}{i x:Nat}(h:g[i]? = some x):root g i=if x<i then root g x else i:=by rw[root,h];simp
theorem uW{g:List Nat}{i:Nat}(h:g[i]? = none):root g i=i:=by rw[root,h]
theorem PS(g:List Nat):∀i,root g i≤i:=by
 intro i
 induction i using Nat.strongRecOn with
 |_ i ih =>
  cases h:g[i]? with
  |none=>rw[uW h];omega
  |some x =>
   rw[eR h]
   grind
theorem Mb{g:List Nat}(hf:Fo g):∀i,i<g.length→g[root g i]? = some (root g i):=by
 intro i
 induction i using Nat.strongRecOn with
 |_ i ih =>
  intro hi;have h:=aa8 hi;rw[eR h]
  split
  ·grind
  ·have:=hf i _ h
   grind
theorem mG{g:List Nat}{i:Nat}(h:g[i]? = some i):root g i=i:=by simp_all [eR,if_neg]
theorem Fo.set{g:List Nat}(hf:Fo g){i y:Nat}(h:y≤i):Fo (g.set i y):=fun j x hj=>by
 rw[List.getElem?_set]at hj
 split at hj
 ·simp_all
 ·exact hf j x hj
theorem N5{g:List Nat}(hf:Fo g){i x y:Nat}(hi:g[i]? = some x)(hx:g[x]? = some y)(aN:x<i):∀j,root (g.set i y) j=root g j:=by
 have hyx:=hf x y hx;have rM:=(abC.1 hi).1;intro j
 induction j using Nat.strongRecOn with
 |_ j ih =>
  by_cases e:j=i
  ·subst e;have h1:(g.set j y)[j]? = some y:=by simp_all
   rw[eR h1,if_pos (by omega),ih y (by omega),eR hi,if_pos aN,eR hx]
   grind [mG]
  ·have h1:(g.set i y)[j]? = g[j]? := by grind
   cases h:g[j]? with
   |none=>grind [uW]
   |some z =>simp_all [eR]
theorem Sw{g:List Nat}{a b:Nat}(ha:g[a]? = some a)(hb:g[b]? = some b):∀j,root (g.set (max a b) (min a b)) j=if root g j=max a b then min a b else root g j:=by
 have hm:g[max a b]? = some (max a b):=by grind
 have hn:g[min a b]? = some (min a b):=by grind
 have hml:=(abC.1 hm).1;have hle:min a b≤max a b:=by omega
 generalize max a b=M at *;generalize min a b=m at *;have aN:∀j,(g.set M m)[j]? = if j=M then some m else g[j]? := fun j=>by
  grind
 intro j
 induction j using Nat.strongRecOn with
 |_ j ih =>
  by_cases ej:j=M
  ·subst ej;have h1:(g.set j m)[j]? = some m:=by simp_all
   rw[eR h1,mG hm,if_pos rfl];by_cases e:m<j
   ·simp_all [if_pos,mG,if_neg]
   grind
  ·have h1:(g.set M m)[j]? = g[j]? := by simp_all
   cases h:g[j]? with
   |none=>simp_all [uW,if_neg]
   |some z =>
    rw[eR h,eR (h1.trans h)]
    grind
def fI(g:List Nat):List Int:=g.map fun n=>((n:Nat):Int)
theorem EH(g:List Nat):(fI g).length=g.length:=by simp[fI]
theorem wJ{g:List Nat}{i x:Nat}(h:g[i]? = some x):(fI g)[Int.toNat (i:Int)]? = some (x:Int):=by simp[fI,h]
theorem WC(g:List Nat)(i x:Nat):(fI g).set (Int.toNat (i:Int)) (x:Int)=fI (g.set i x):=by simp[fI,List.map_set]
theorem EI{g:List Nat}{i:Nat}(h:i<g.length):(decide ((0:Int)≤(i:Int))&&decide ((i:Int)<(((fI g).length:Nat):Int)))=true:=by
 grind [EH,cP,fK,aT]
structure HF(g g':List Nat):Prop where
 f:Fo g'
 n:g'.length=g.length
 r:∀j,root g' j=root g j
theorem HF.trans{a b c:List Nat}(h:HF a b)(k:HF b c):HF a c:=⟨k.f,k.n.trans h.n,fun j=>(k.r j).trans (h.r j)⟩
theorem WD(hG:HG G)(g:List Nat)(i:Nat)(hf:Fo g)(hi:i<g.length):∃g',HF g g'∧FX G 242 s8 (((i:Int),()),(fI g,()))=some ((((root g i:Nat):Int),()),(fI g',())):=by
 have loop:∀(i:Nat) (g:List Nat),Fo g→i<g.length→∃g',HF g g'∧LX G 242 s8 Tryz.f242 uy (aK Tryz.prog 242 0) (((i:Int),()),((),(fI g,())))=some ((((root g i:Nat):Int),()),(fI g',())):=by
  intro i
  induction i using Nat.strongRecOn with
  |_ i ih =>
   intro g hf hi;have h:=aa8 hi;generalize g[i]=x at h;have hxi:=hf i x h;by_cases hx:x<i
   ·have h2:=aa8 (show x<g.length by omega);generalize g[x]=y at h2;have hyx:=hf x y h2;have hs:=N5 hf h h2 hx;have hf2:Fo (g.set i y):=hf.set (by omega);obtain⟨g',h3,h4⟩:=ih y (by omega) (g.set i y) hf2 (by grind);refine⟨g',⟨h3.f,by rw[h3.n,List.length_set],fun j=>(h3.r j).trans (hs j)⟩,?_⟩;refine ar Ps ?_;refine ae (EI hi) (aa (wJ h) ?_);refine ae (show(((x:Nat):Int) != (i:Int))=true by grind) ?_;refine ae (EI hi) (aa (wJ h) ?_);refine ae (EI (show x<g.length by omega)) (aa (wJ h2) ?_);refine ae (EI hi) (aa (wJ h) ?_);have amK:=WC g i y;have key:∀f:List Int,f=fI (g.set i y)→cond ((decide ((0:Int)≤(i:Int)))&&(decide ((i:Int)<(((List.length f):Nat):Int)))) (((f)[(Int.toNat (i:Int))]?).bind fun(y5:Int)=>LX G 242 s8 Tryz.f242 uy (aK Tryz.prog 242 0) ((y5,()),((),(f,())))) none=some ((((root g i:Nat):Int),()),(fI g',())):=fun f hf=>by
     subst hf;refine ae (EI (by simp_all)) (aa (wJ (x:=y) (by simp_all)) ?_);rw[h4,hs y,eR h,if_pos hx,eR h2];by_cases hy:y<x
     ·rw[if_pos hy]
     ·have:y=x:=by omega
      subst this;rw[if_neg (by omega),mG h2]
    exact key _ amK
   ·have:x=i:=by omega
    subst this;refine⟨g,⟨hf,rfl,fun _=>rfl⟩,?_⟩;refine ar Ps ?_;refine ae (EI hi) (aa (wJ h) ?_);rw[mG h];exact af (by simp) rfl
 obtain⟨g',h1,h2⟩:=loop i g hf hi;exact⟨g',h1,av (hG _ _ rfl) afq h2⟩
def EJ(a b r:Nat):Nat:=if r=max a b then min a b else r
theorem agT(hG:HG G)(g:List Nat)(i k:Nat)(hf:Fo g)(hi:i<g.length)(hk:k<g.length):∃g',Fo g'∧g'.length=g.length∧(∀j,root g' j=EJ (root g i) (root g k) (root g j))∧FX G 241 K0 (((i:Int),((k:Int),())),(fI g,()))=some ((),(fI g',())):=by
 obtain⟨g1,h1,e1⟩:=WD hG g i hf hi;obtain⟨g2,h2,e2⟩:=WD hG g1 k h1.f (by rw[h1.n];exact hk);rw[h1.r k]at e2;have hs:=h1.trans h2;have ra:g2[root g i]? = some (root g i):=by have:=Mb hs.f i (by rw[hs.n];exact hi);rw[hs.r i]at this;exact this
 have rb:g2[root g k]? = some (root g k):=by have:=Mb hs.f k (by rw[hs.n];exact hk);rw[hs.r k]at this;exact this
 have hal:=(abC.1 ra).1;have hbl:=(abC.1 rb).1;have hm:max (root g i) (root g k)<g2.length:=by omega
 refine⟨g2.set (max (root g i) (root g k)) (min (root g i) (root g k)),hs.f.set (by omega),by rw[List.length_set,hs.n],fun j=>by rw[Sw ra rb j,hs.r j];rfl,?_⟩;refine av (hG _ _ rfl) afp ?_;refine aa e1 (aa e2 ?_);have em:(max ((root g i:Nat):Int) ((root g k:Nat):Int):Int)=((max (root g i) (root g k):Nat):Int):=by omega
 have en:(min ((root g i:Nat):Int) ((root g k:Nat):Int):Int)=((min (root g i) (root g k):Nat):Int):=by omega
 have key:∀m n:Int,m=((max (root g i) (root g k):Nat):Int)→n=((min (root g i) (root g k):Nat):Int)→cond ((decide ((0:Int)≤m))&&(decide (m<(((List.length (fI g2)):Nat):Int)))) (((fI g2)[(Int.toNat m)]?).bind fun(y3:Int)=>(some ((),((List.set (fI g2) (Int.toNat m) n),())):Option (Unit×((List Int)×Unit)))) none=some ((),(fI (g2.set (max (root g i) (root g k)) (min (root g i) (root g k))),())):=fun m n hm' QD=>by subst hm' QD;refine ae (EI hm) (aa (wJ (aa8 hm)) ?_);rw[WC]
 exact key _ _ em en
theorem EK{α:Type}(x:ab)(es:List (ab×α)):sw bj x es=es.findIdx? fun e=>decide (e.1=x):=by
 show List.findIdx? (fun e:ab×α=>((x.1.1==e.1.1.1)&&(x.1.2==e.1.1.2))&&(x.2==e.1.2)) es=_
 grind
def fF{β α:Type}[DecidableEq β](x:β):List (β×α)→Option α
 |[]=>none
 |e::r=>if e.1=x then some e.2 else fF x r
theorem N6{β α:Type}[DecidableEq β](x:β):∀es:List (β×α),((es.findIdx? fun e=>decide (e.1=x)).bind fun i=>(es[i]?).map (·.2))=fF x es
 |[]=>rfl
 |e::r=>by
  have ih:=N6 x r;rw[List.findIdx?_cons,fF];by_cases h:e.1=x
  ·simp_all
  ·rw[if_neg (by simpa using h),if_neg h,←ih]
   cases r.findIdx? fun e=>decide (e.1=x)<;>simp
theorem N7{α:Type}(x:ab)(es:List (ab×α)):fM bj x es=fF x es:=by have:=N6 x es;rw[←EK]at this;exact this
theorem Mc{α:Type}{x:ab}(v:α){es:List (ab×α)}(h:x∉es.map (·.1)):jN bj x v es=es++[(x,v)]:=by
 have e:sw bj x es=none:=by rw[EK,List.findIdx?_eq_none_iff];intro q hq;exact decide_eq_false fun k=>h (acn.2 ⟨q,hq,k⟩)
 unfold jN
 split
 ·rename_i i k;rw[e]at k;cases k
 ·rfl
theorem Md{β α:Type}[DecidableEq β]{x:β}{v:α}:∀{es:List (β×α)},(es.map (·.1)).Nodup→(x,v)∈es→fF x es=some v
 |[],_,h=>by cases h
 |e::r,hn,h=>by
  simp only[List.map_cons,List.nodup_cons]at hn;rw[fF];rcases abD.1 h with e1|h
  ·grind
  ·rw[if_neg (fun k=>hn.1 (by simp_all))];exact Md hn.2 h
def iU:List ai→Nat→List (ab×Int)
 |[],_=>[]
 |v::r,i=>v.2.1.map (fun x=>(x,(i:Int)))++iU r (i+1)
theorem Aa:∀(l:List ai) (i:Nat),(iU l i).map (·.1)=an l
 |[],_=>rfl
 |v::r,i=>by
  have e:(v.2.1.map fun x=>(x,(i:Int))).map (·.1)=v.2.1:=by rw[List.map_map];exact List.map_id _
  rw[iU,fg,List.map_append,Aa r,e]
theorem Me:∀(a b:List ai) (i:Nat),iU (a++b) i=iU a i++iU b (i+a.length)
 |[],b,i=>rfl
 |v::r,b,i=>by rw[List.cons_append,iU,iU,Me r b,List.append_assoc];congr 3;simp;omega
theorem Mf{x:ab}{a:Int}:∀{l:List ai} {i:Nat},(x,a)∈iU l i→∃k v,l[k]? = some v∧a=((i+k:Nat):Int)∧x∈v.2.1
 |[],i,h=>by cases h
 |v::r,i,h=>by
  rw[iU]at h;rcases ab6.1 h with h|h
  ·grind
  ·obtain⟨k,u,h1,h2,h3⟩:=Mf h;exact⟨k+1,u,by simpa using h1,by omega,h3⟩
theorem PT{x:ab}:∀{l:List ai} {i k:Nat} {v:ai},l[k]? = some v→x∈v.2.1→(x,((i+k:Nat):Int))∈iU l i
 |v::r,i,0,u,h,hx=>by simp at h;subst h;rw[iU];exact abM _ (acn.2 ⟨x,hx,rfl⟩)
 |v::r,i,k+1,u,h,hx=>by
  rw[iU];refine abL _ ?_;have:=PT (i:=i+1) (k:=k) (by simpa using h) hx
  rwa [show i+1+k=i+(k+1) by omega]at this
theorem WE(i:Nat):fI (List.range i)++[(i:Int)]=fI (List.range (i+1)):=by rw[List.range_succ];simp[fI]
section
variable {d:ak} {y:iE.B}
theorem Ze(h:Wf d){i:Nat}(hi:i<d.1.length){f:List Int}{nn:Int} (next:LX G 236 iE Tryz.f236 ux (aK Tryz.prog 236 0) ((d.1,(nn,((IntKind.wrap .i64 ((i:Int)+1)),()))),((),(f,(iU (d.1.take (i+1)) 0,()))))=some y):∀(n j:Nat) (es:List (ab×Int)),j+n=d.1[i].2.1.length→es=iU (d.1.take i) 0++(d.1[i].2.1.take j).map (fun x=>(x,(i:Int))) → LX G 236 iE Tryz.f236 xO (aK Tryz.prog 236 1) (((i:Int),(d.1,(nn,((i:Int),(d.1[i].2.1,(((d.1[i].2.1.length:Nat):Int),((j:Int),()))))))),((),(f,(es,()))))=some y:=by
 have hr:=h.rv d.1[i] (acV hi);have et:d.1.take (i+1)=d.1.take i++[d.1[i]]:=(List.take_append_getElem hi).symm;have ev:iU (d.1.take (i+1)) 0=iU (d.1.take i) 0++d.1[i].2.1.map (fun x=>(x,(i:Int))):=by
  rw[et,Me];have:(d.1.take i).length=i:=by rw[List.length_take];omega
  rw[this,Nat.zero_add];congr 1;show d.1[i].2.1.map (fun x=>(x,(i:Int)))++[]=_;rw[List.append_nil]
 have nd:(an (d.1.take i)++d.1[i].2.1).Nodup:=by
  have h1:=h.rw.n;rw[←List.take_append_drop (i+1) d.1,et,kP,kP]at h1;have e2:an [d.1[i]]=d.1[i].2.1:=by rw[fg];exact List.append_nil _
  rw[e2]at h1;exact(adw.1 h1).1
 intro n
 induction n with
 |zero =>intro j es hj he;refine ar Po ?_;refine af (decide_eq_false (show ¬((j:Int)<((d.1[i].2.1.length:Nat):Int)) by omega)) ?_;have e:d.1[i].2.1.take j=d.1[i].2.1:=adQ (by omega);rw[e,←ev]at he;subst he;exact next
 |succ n ih =>
  intro j es hj he;have aN:j<d.1[i].2.1.length:=by omega
  refine ar Po ?_;refine ae (aT aN) (aa (aB (aa8 aN)) ?_);have CD:d.1[i].2.1[j]∉es.map (·.1):=by
   have e3:((d.1[i].2.1.take j).map fun x=>(x,(i:Int))).map (·.1)=d.1[i].2.1.take j:=by rw[List.map_map];exact List.map_id _
   rw[he,List.map_append,Aa,e3,List.mem_append];rintro(k|k)
   ·exact(adw.1 nd).2.2 _ k _ (acV aN) rfl
   ·obtain⟨q,hq,he⟩:=adN k;have hq1:q<j:=by rw[List.length_take]at hq;omega
    rw[List.getElem_take]at he;have:=(List.getElem_inj (adw.1 nd).2.1).1 he;omega
  have:=ih (j+1) (jN bj d.1[i].2.1[j] (i:Int) es) (by omega) (by rw[Mc _ CD,he,←List.take_append_getElem aN,List.map_append,List.append_assoc];rfl);rw[←aD aN (by omega)]at this;exact this
theorem Zg(h:Wf d) (next:LX G 236 iE Tryz.f236 q8 (aK Tryz.prog 236 2) ((iU d.1 0,()),((),(fI (List.range d.1.length),((none,iU d.1 0),()))))=some y):∀(n i:Nat),i+n=d.1.length → LX G 236 iE Tryz.f236 ux (aK Tryz.prog 236 0) ((d.1,(((d.1.length:Nat):Int),((i:Int),()))),((),(fI (List.range i),(iU (d.1.take i) 0,()))))=some y:=by
 have hn:=h.nv;intro n
 induction n with
 |zero =>
  intro i hi;have e:i=d.1.length:=by omega
  subst e;refine ar Pn ?_;refine af (decide_eq_false (show ¬(((d.1.length:Nat):Int)<((d.1.length:Nat):Int)) by omega)) ?_;rw[List.take_length];exact next
 |succ n ih =>
  intro i hi;have aN:i<d.1.length:=by omega
  refine ar Pn ?_;refine ae (aT aN) (aa (aB (aa8 aN)) ?_);refine ae (fits (by grind [fI,List.range,EH])) ?_;have nx:=ih (i+1) (by omega);rw[←aD aN (by omega),←WE]at nx;exact Ze (G:=G) h aN nx d.1[i].2.1.length 0 _ (by omega) (by simp)
end
end Go.Vs
namespace Go.Vs
open Go.Proofs
variable {G:(f:FuncId)→(g:aO)→Option (g.A→Option g.B)}
theorem N8(a b:Nat):EJ a b a=min a b∧EJ a b b=min a b:=by
 grind [EJ]
structure FoI(d:ak)(rem:List (ab×Int))(g:List Nat):Prop where
 f:Fo g
 n:g.length=d.1.length
 c:∀i,i<d.1.length→cq d (cU d i) (cU d (root g i))
 p:∀(z:ab) (i k:Nat),(z,(i:Int))∈iU d.1 0→(aj z,(k:Int))∈iU d.1 0→(z,(i:Int))∉rem→root g i=root g k
theorem yp{d:ak}(h:Wf d){z:ab}{a:Int}(hm:(z,a)∈iU d.1 0):∃i:Nat,i<d.1.length∧a=(i:Int)∧z∈an d.1∧cf d z=some (cU d i):=by obtain⟨k,v,h1,h2,h3⟩:=Mf hm;rw[Nat.zero_add]at h2;have hv:=acI h1;refine⟨k,(abC.1 h1).1,h2,aS.2 ⟨v,hv,h3⟩,?_⟩;rw[rz h1];exact fh h.rw hv h3
theorem N9{d:ak}(h:Wf d){z:ab}(hz:z∈an d.1):∃i:Nat,(z,(i:Int))∈iU d.1 0:=by
 obtain⟨v,hv,hx⟩:=aS.1 hz;obtain⟨k,hk⟩:=adC hv;have:=PT (i:=0) hk hx
 grind
theorem PU{d:ak}(h:Wf d){z:ab}{a:Int}(hm:(z,a)∈iU d.1 0):fM bj z (iU d.1 0)=some a:=by rw[N7];refine Md ?_ hm;rw[Aa];exact h.rw.n
theorem FoI.same{d:ak}(h:Wf d){g:List Nat}(hg:FoI d [] g){a b:ID}(k:cq d a b):∀i j,i<d.1.length→j<d.1.length→cU d i=a→cU d j=b→root g i=root g j:=by
 induction k with
 |refl=>intro i j hi hj h1 h2;rw[ke h.sv hi hj (h1.trans h2.symm)]
 |tail _ s ih =>
  intro i j hi hj h1 h2;obtain⟨z,hz,s1,s2⟩:=s;obtain⟨m,hm⟩:=N9 h hz;obtain⟨q,hq⟩:=N9 h (h.other hz);obtain⟨m',m1,m2,_,m3⟩:=yp h hm;obtain⟨q',q1,q2,_,q3⟩:=yp h hq;have em:m'=m:=by omega
  have eq:q'=q:=by omega
  subst em;subst eq;rw[s1]at m3;rw[s2]at q3;have r1:=ih i m' hi m1 h1 (acP m3).symm;have r2:=hg.p z m' q' hm hq (by simp);have ej:q'=j:=ke h.sv q1 hj ((acP q3).symm.trans h2.symm);simp_all
theorem FoI.can{d:ak}(h:Wf d){g:List Nat}(hg:FoI d [] g):L7 d (fI ((List.range d.1.length).map (root g))):=by
 have sN:∀i,i<d.1.length→(fI ((List.range d.1.length).map (root g))).getD i 0=((root g i:Nat):Int):=fun i hi=>by
  grind [fI,List.getD]
 refine⟨⟨by rw[EH];simp,fun i hi=>⟨root g i,PS g i,sN i hi,hg.c i hi⟩⟩,fun i hi j hj k=>?_⟩;rw[sN i hi,hg.same h k i j hi hj rfl rfl]
 grind [PS]
theorem Zh(hG:HG G){d:ak}(h:Wf d){g:List Nat}:∀(n i:Nat) (g':List Nat),i+n=d.1.length→Fo g'→g'.length=d.1.length→(∀j,root g' j=root g j) → LX G 236 iE Tryz.f236 xQ (aK Tryz.prog 236 3) ((((d.1.length:Nat):Int),((i:Int),())),((),(fI g',(fI ((List.range i).map (root g)),()))))=some ((fI ((List.range d.1.length).map (root g)),()),()):=by
 have MU:=h.nv;intro n
 induction n with
 |zero =>
  intro i g' hi h1 h2 h3;have e:i=d.1.length:=by omega
  subst e;refine ar Pq ?_;exact af (decide_eq_false (show ¬(((d.1.length:Nat):Int)<((d.1.length:Nat):Int)) by omega)) rfl
 |succ n ih =>
  intro i g' hi h1 h2 h3;have aN:i<d.1.length:=by omega
  obtain⟨g2,s,e⟩:=WD hG g' i h1 (by omega);refine ar Pq ?_;refine ae (aT aN) (aa e ?_);refine ae (fits (by show(fI _).length+1≤_;rw[EH];simp;omega)) ?_;have:=ih (i+1) g2 (by omega) s.f (by rw[s.n,h2]) (fun j=>(s.r j).trans (h3 j));have e2:fI ((List.range (i+1)).map (root g))=fI ((List.range i).map (root g))++[((root g' i:Nat):Int)]:=by simp_all [List.range_succ,fI]
  rw[e2,←aD aN (by omega)]at this;exact this
theorem Zi(hG:HG G){d:ak}(h:Wf d):∀(n:Nat) (rem:List (ab×Int)) (g:List Nat) (o:Option (ab×Int)),rem.length=n→(∀e∈rem,e∈iU d.1 0)→FoI d rem g → LX G 236 iE Tryz.f236 q8 (aK Tryz.prog 236 2) ((iU d.1 0,()),((),(fI g,((o,rem),()))))=some ((labels d,()),()):=by
 intro n
 induction n with
 |zero =>
  intro rem g o hn hr hg;have e:rem=[]:=abY hn;subst e;refine ar Pp ?_;refine ae rfl ?_;have:=Zh (G:=G) hG h (g:=g) d.1.length 0 g (by omega) hg.f hg.n (fun _=>rfl);rw[(hg.can h).uniq h (fi h)]at this;have e2:((fI g).length:Int)=((d.1.length:Nat):Int):=by rw[EH,hg.n]
  rw[←e2]at this;exact this
 |succ n ih =>
  intro rem g o hn hr hg;refine ar Pp ?_;refine af (show rem.isEmpty=false by grind) ?_;refine ml (show 0<rem.length by omega) fun j hj=>?_;have hj':j<rem.length:=hj;refine aa (aa8 hj') ?_;have hm:=hr _ (acV hj');generalize he:rem[j]=e at hm;obtain⟨z,a⟩:=e;obtain⟨i,hi,ha,hz,haz⟩:=yp h hm;subst ha;obtain⟨k,hk⟩:=N9 h (h.other hz);obtain⟨k',wy,ek,_,hak⟩:=yp h hk;have ek':k'=k:=by omega
  subst ek';refine aa (LS (hG _ _ rfl) z (h.side hz)) ?_;have sN:fM bj (aj z) (iU d.1 0)=some (k':Int):=PU h hk;refine ae (show(fM bj (aj z) (iU d.1 0)).isSome=true by rw[sN];rfl) ?_;obtain⟨g',h1,h2,h3,h4⟩:=agT hG g i k' hg.f (by rw[hg.n];exact hi) (by rw[hg.n];exact wy);refine aa (a:=((),(fI g',()))) (by
   have:(fM bj (aj z) (iU d.1 0)).getD (0:Int)=(k':Int):=by rw[sN];rfl
   rw[←this]at h4;exact h4) ?_
  have amL:Bf d (cU d i) (cU d k'):=⟨z,hz,haz,hak⟩;have cij:cq d (cU d (root g i)) (cU d (root g k')):=((hg.c i hi).symm h).trans (amL.conn.trans (hg.c k' wy));refine ih (rem.eraseIdx j) g' _ (by grind) (fun e he=>hr e (List.mem_of_mem_eraseIdx he)) ⟨h1,h2.trans hg.n,fun q hq=>?_,fun y p q hp hq hy=>?_⟩
  ·rw[h3 q];unfold EJ
   split
   ·rename_i e;refine(hg.c q hq).trans ?_;rw[e];rcases Nat.le_total (root g i) (root g k') with hle|hle
    ·rw[Nat.max_eq_right hle,Nat.min_eq_left hle];exact cij.symm h
    simp_all
   ·exact hg.c q hq
  ·rw[h3 p,h3 q];by_cases uj:(y,(p:Int))∈rem
   ·
    have e:(y,(p:Int))=(z,(i:Int)):=by
     apply Classical.byContradiction
     grind [List.mem_eraseIdx_iff_getElem,List.getElem_of_mem]
    have e1:y=z:=congrArg Prod.fst e;have e2:p=i:=by grind
    subst e1;subst e2;have h5:=PU h hq
    grind [Option.some.inj,N8]
   ·rw[hg.p y p q hp hq uj]
theorem Oa(n:Nat):∀i,root (List.range n) i=i:=fun i=>by
 grind [List.range,uW,List.getElem?_range,List.getElem?_eq_some_iff,Option.some.inj,mG]
theorem agV(hG:HG G)(d:ak)(h:Wf d):FX G 236 iE ((d,()),())=some ((labels d,()),()):=by
 refine av (hG _ _ rfl) afn ?_;refine Zg (G:=G) h ?_ d.1.length 0 (by omega);refine Zi hG h _ (iU d.1 0) (List.range d.1.length) none rfl (fun _ k=>k) ⟨fun i x hx=>?_,by simp,fun i hi=>?_,fun z i k h1 h2 h3=>absurd h1 h3⟩
 ·grind
 ·rw[Oa];exact .refl _
structure PG(G:(f:FuncId)→(g:aO)→Option (g.A→Option g.B)):Prop where
 h:HG G
 f:∀d,Wf d→FX G 207 AY ((d,()),())=some ((bW d,()),())
 c:∀d,Wf d→FX G 208 AZ ((d,()),())=some ((fE d,()),())
theorem agW(hp:PG G)(d:ak)(h:Wf d):FX G 183 KX ((d,()),())=some ((((d.1.length:Nat):Int),(((d.2.length:Nat):Int),(((ft d:Nat):Int),(fE d,())))),()):=by
 have hn:=h.nv;have hf:=yn h;have ha:al d.1≤d.1.length:=adD;refine av (hp.h _ _ rfl) afg ?_;refine aa (WB hp.h d.1 (by omega)) ?_;refine aa (hp.f d h) (aa (hp.c d h) ?_);have e:IntKind.wrap .i64 ((((bW d).length:Nat):Int)+((al d.1:Nat):Int))=((ft d:Nat):Int):=by rw[wrap_small (by omega) (by omega)];rfl
 exact congrArg (fun n:Int=>some ((((d.1.length:Nat):Int),(((d.2.length:Nat):Int),(n,(fE d,())))),())) e
theorem agX(hp:PG G)(d:ak)(h:Wf d):FX G 144 KU ((d,()),())=some ((bL d,()),()):=by
 have hn:=h.nv;have bB:=h.ne;have hf:=yn h;have ha:al d.1≤d.1.length:=adD;refine av (hp.h _ _ rfl) ae6 ?_;refine aa (agW hp d h) (af rfl ?_);have hr:=lU h (fi h);obtain⟨k,e1,e2⟩:=EF h hr;have ec:=uV h;have O4:(nJ d (labels d)).length≤d.1.length:=by
  grind [nJ,List.length_map,Nat.le_trans,List.length_filter_le]
 have hft:ft d≤80+d.1.length:=by omega
 refine congrArg (fun n:Int=>some ((n,()),())) ?_;show IntKind.wrap .i64 (fE d-IntKind.wrap .i64 (Int.tdiv (IntKind.wrap .i64 ((IntKind.wrap .i64 (((d.1.length:Nat):Int)-((d.2.length:Nat):Int)))+((ft d:Nat):Int))) 2))=bL d
 grind [wrap_small,ft,nJ,labels,Int.mul_tdiv_cancel_left]
theorem Zj(hp:PG G):oT G:=fun d h=>by refine av (hp.h _ _ rfl) aeP ?_;refine aa (agX hp d h) ?_;rfl
end Go.Vs
