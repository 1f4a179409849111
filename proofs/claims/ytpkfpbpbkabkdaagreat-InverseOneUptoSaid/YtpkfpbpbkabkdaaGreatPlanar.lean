/- What the program computes of -/
import Derived.Test.YtpkfpbpbkabkdaaGreatEuler
set_option linter.unusedVariables false
set_option linter.unusedSimpArgs false
namespace Go.Vs
open Go.Proofs
variable {G:(f:FuncId)→(g:aS)→Option (g.A→Option g.B)}
theorem Lv(w:ah)(r:List ah)(x:ID):bg (w::r) x=if w.1=x then some w else bg r x:=by unfold bg;rw[List.find?_cons];by_cases h:w.1=x<;>simp[h]
theorem Tq(hG:HG G)(l:List ah)(x:ID)(hl:l.length≤1073741824):FX G 110108 kB ((l,x,()),())=some (fQ zV (bg l x),()):=by
 refine az (hG _ _ rfl) R9 ?_;have loop:∀(n i:Nat),i+n=l.length→LX G 110108 kB Tryz.f108 mj (aO Tryz.prog 108 0) ((l,(((l.length:Nat):Int),((i:Int),()))),(((x,()),(((0:Int),((0:Int),(([]:List ae),(e0,((0:Int),()))))),())),()))=some (fQ zV (bg (l.drop i) x),()):=by
  intro n
  induction n with
  |zero =>intro i hi;refine ao Cl ?_;refine ag (decide_eq_false (show ¬((i:Int)<((l.length:Nat):Int)) by omega)) ?_;rw[List.drop_eq_nil_of_le (by omega)];rfl
  |succ n ih =>
   intro i hi;have aF:i<l.length:=by omega
   have aiM:FX G 109 Ip ((l[i],()),())=some ((l[i].1,()),()):=az (hG _ _ rfl) abE rfl;refine ao Cl ?_;refine af (aY aF) (aa (aA (aaY aF)) ?_);refine aa aiM ?_;rw[List.drop_eq_getElem_cons aF,Lv];by_cases he:l[i].1=x
   ·rw[if_pos he];exact af ((gM l[i].1 x).trans (decide_eq_true he)) rfl
   ·rw[if_neg he];refine ag ((gM l[i].1 x).trans (decide_eq_false he)) ?_;have:=ih (i+1) (by omega);rw[←aD aF hl]at this;exact this
 have:=loop l.length 0 (by omega);rw[List.drop_zero]at this;exact this
theorem Jq(hG:HG G)(d:aj)(x:ID)(hs:Sm d):FX G 74 tp ((d,x,()),())=some (fQ zV (aQ d x),()):=by
 have hv:=hs.v;refine az (hG _ _ rfl) abq ?_;refine aa (Tq hG d.1 x (by omega)) ?_;unfold aQ
 cases hf:bg d.1 x with
 |none=>exact aa (YL (hG _ _ rfl) [] (by simp)) rfl
 |some v=>exact aa (YL (hG _ _ rfl) v.2.1 (hs.r v (gP hf))) rfl
theorem Ts(w:ah)(r:List ah)(x:ae):Gn (w::r) x=if x∈w.2.1 then some w.1 else Gn r x:=by unfold Gn;rw[List.find?_cons];by_cases h:x∈w.2.1<;>simp[h]
theorem Tt(hG:HG G)(d:aj)(x:ae)(hs:Sm d):FX G 139 tq ((d,x,()),())=some (fQ zI (bP d x),()):=by
 have hv:=hs.v;refine az (hG _ _ rfl) abF ?_;have loop:∀(n i:Nat),i+n=d.1.length→LX G 139 tq Tryz.f139 vG (aO Tryz.prog 139 0) ((d.1,(((d.1.length:Nat):Int),((i:Int),()))),(((x,()),((zI,()),())),()))=some (fQ zI (Gn (d.1.drop i) x),()):=by
  intro n
  induction n with
  |zero =>intro i hi;refine ao Mp ?_;refine ag (decide_eq_false (show ¬((i:Int)<((d.1.length:Nat):Int)) by omega)) ?_;rw[List.drop_eq_nil_of_le (by omega)];rfl
  |succ n ih =>
   intro i hi;have aF:i<d.1.length:=by omega
   refine ao Mp ?_;refine af (aY aF) (aa (aA (aaY aF)) ?_);refine aa (EK hG d.1[i].2.1 x (by have:=hs.r _ (adv aF);omega)) ?_;rw[List.drop_eq_getElem_cons aF,Ts];by_cases he:x∈d.1[i].2.1
   ·rw[if_pos he];exact af (decide_eq_true he) rfl
   ·rw[if_neg he];refine ag (decide_eq_false he) ?_;have:=ih (i+1) (by omega);rw[←aD aF (by omega)]at this;exact this
 have:=loop d.1.length 0 (by omega);rw[List.drop_zero]at this;exact this
def Lw(x:ae):List aB→Int→Int
 |[],_ => -1
 |g::r,i=>if g.1=x then i else Lw x r (i+1)
theorem Js(x:ae):∀(l:List aB) (i:Nat),(Lw x l i = -1∧gy l x=none)∨∃k g,Lw x l (i:Int)=((i+k:Nat):Int)∧l[k]? = some g∧gy l x=some g.2
 |[],i=>.inl ⟨rfl,rfl⟩
 |g::r,i=>by
  rw[Lw,qf];by_cases h:g.1=x
  ·rw[if_pos h,if_pos h];exact .inr ⟨0,g,by simp,by simp,rfl⟩
  ·rw[if_neg h,if_neg h];have e:(i:Int)+1=((i+1:Nat):Int):=by omega
   rw[e];rcases Js x r (i+1) with⟨h1,h2⟩|⟨k,q,h1,h2,h3⟩
   ·exact .inl ⟨h1,h2⟩
   ·exact .inr ⟨k+1,q,by rw[h1];congr 1;omega,by simpa using h2,h3⟩
theorem Tu(hG:HG G)(l:List aB)(x:ae)(hl:l.length≤1073741824):FX G 246244 jw ((l,()),((x,()),()))=some ((Lw x l 0,()),((x,()),())):=by
 refine az (hG _ _ rfl) Sb ?_;have loop:∀(n i:Nat),i+n=l.length→LX G 246244 jw Tryz.f244 jW (aO Tryz.prog 244 0) ((l,(((l.length:Nat):Int),((i:Int),()))),(((x,()),()),()))=some ((Lw x (l.drop i) i,()),((x,()),())):=by
  intro n
  induction n with
  |zero =>intro i hi;refine ao Cn ?_;refine ag (decide_eq_false (show ¬((i:Int)<((l.length:Nat):Int)) by omega)) ?_;rw[List.drop_eq_nil_of_le (by omega)];rfl
  |succ n ih =>
   intro i hi;have aF:i<l.length:=by omega
   have aiN:FX G 245 Is ((l[i],()),((x.1.1,(x.1.2,(x.2,()))),()))=some (((((l[i].1.1.1==x.1.1)&&(l[i].1.1.2==x.1.2))&&(l[i].1.2==x.2)),()),((x.1.1,(x.1.2,(x.2,()))),())) :=az (hG _ _ rfl) abK rfl;refine ao Cn ?_;refine af (aY aF) (aa (aA (aaY aF)) ?_);refine aa aiN ?_;rw[List.drop_eq_getElem_cons aF,Lw];by_cases he:l[i].1=x
   ·rw[if_pos he];exact af ((jE l[i].1 x).trans (decide_eq_true he)) rfl
   ·rw[if_neg he];refine ag ((jE l[i].1 x).trans (decide_eq_false he)) ?_;have:=ih (i+1) (by omega);have e:=aD aF hl;show LX G 246244 jw Tryz.f244 jW (aO Tryz.prog 244 0) ((l,(((l.length:Nat):Int),(IntKind.wrap .i64 ((i:Int)+1),()))),(((x,()),()),()))=some ((Lw x (l.drop (i+1)) ((i+1:Nat):Int),()),((x,()),()));rw[e];exact this
 have:=loop l.length 0 (by omega);rw[List.drop_zero]at this;exact this
theorem ade(hG:HG G)(l:List aB)(x:ae)(hl:l.length≤1073741824):FX G 230 Iq ((l,x,()),())=some (fQ zD (gy l x),()):=by
 refine az (hG _ _ rfl) abG ?_;refine aa (Tu hG l x hl) ?_;rcases Js x l 0 with⟨h1,h2⟩|⟨k,g,h1,h2,h3⟩
 ·have h1:Lw x l 0 = -1:=h1;rw[h2];exact af (decide_eq_true (show Lw x l 0<0 by omega)) rfl
 ·have h1:Lw x l 0=(k:Int):=by have:Lw x l ((0:Nat):Int)=Lw x l 0:=rfl;rw[←this,h1];congr 1;omega
  rw[h3];refine ag (decide_eq_false (show ¬Lw x l 0<0 by omega)) ?_;refine aa (show aT l (Lw x l 0)=some g by rw[h1];exact aA h2) ?_;rfl
theorem adf(hG:HG G)(s:StateT)(x:ae)(hs:Sm s.1)(hg:s.2.length≤50000000):FX G 212 yT ((s,x,()),())=some ((resolve s x,()),()):=by
 refine az (hG _ _ rfl) abr ?_;have hw:IntKind.wrap .i64 (((s.2.length:Nat):Int)+1)=((s.2.length+1:Nat):Int):=by rw[wrap_small (by omega) (by omega)];rfl
 have loop:∀(n i:Nat) (y:ae),i+n=s.2.length+1→LX G 212 yT Tryz.f212 vC (aO Tryz.prog 212 0) (((IntKind.wrap .i64 (((s.2.length:Nat):Int)+1)),((i:Int),())),(((s,()),((y,()),((zD,()),()))),()))=some ((res s.1 s.2 n y,()),()):=by
  intro n
  induction n with
  |zero =>intro i y hi;refine ao Ml ?_;exact ag (decide_eq_false (show ¬((i:Int)<IntKind.wrap .i64 (((s.2.length:Nat):Int)+1)) by rw[hw];omega)) rfl
  |succ n ih =>
   intro i y hi;refine ao Ml ?_;refine af (decide_eq_true (show((i:Int)<IntKind.wrap .i64 (((s.2.length:Nat):Int)+1)) by rw[hw];omega)) ?_;refine aa (Tt hG s.1 y hs) ?_;rw[res];have h1:(fQ zI (bP s.1 y)).2.1=(bP s.1 y).isSome:=gN _ _
   cases ha:(bP s.1 y).isSome
   ·rw[if_neg (by simp)];refine ag (h1.trans ha) ?_;refine aa (ade hG s.2 y (by omega)) ?_
    cases hf:gy s.2 y with
    |none=>exact af rfl rfl
    |some z =>
     refine ag rfl ?_;have:=ih (i+1) z (by omega);have e:IntKind.wrap .i64 ((i:Int)+1)=((i+1:Nat):Int):=by rw[wrap_small (by omega) (by omega)];rfl
     rw[←e]at this;exact this
   ·rw[if_pos rfl];exact af (h1.trans ha) rfl
 exact loop (s.2.length+1) 0 x (by omega)
theorem adg(hG:HG G)(s:StateT)(c:ng)(hs:Sm s.1)(hg:s.2.length≤50000000):FX G 180 Ik ((s,c,()),())=some (bq s c,()):=by
 refine az (hG _ _ rfl) abc ?_;refine aa (Jq hG s.1 c.1 hs) ?_;unfold bq
 cases hf:aQ s.1 c.1 with
 |none=>exact af rfl rfl
 |some v =>
  refine ag rfl ?_;refine aa (adf hG s c.2 hs hg) ?_;refine aa (EK hG v.2.1 (resolve s c.2) (by have:=hs.r v (gP hf);omega)) ?_;show _=some (((c.1,v5 s c v),((0:Int),())),());unfold v5;by_cases hm:resolve s c.2∈v.2.1
  ·rw[if_pos hm];exact aV (decide_eq_true hm) rfl
  ·rw[if_neg hm];exact aV (decide_eq_false hm) rfl
def Lx(G:(f:FuncId)→(g:aS)→Option (g.A→Option g.B)):Prop:=∀d,Wf d→FX G 172 BH ((d,()),())=some ((decide (fW d=0),()),())
theorem MZ{l:List ah}{e:List ai}{c:ng}{v:ah}(hs:b8 l)(hf:bg l c.1=some v)(x:ae):l.set (bJ l c.1) (v.1,(mq v.2.1 c.2 x,v.2.2))=(bV (l,e) c x).1:=by rw[Lh hs (dn hs hf)];have hi:=kL hf;have hm:=gP hf;unfold bV Vs.cm;rw[←hi,iU (d:=(l,e)) hs hm]
theorem CZ{d:aj}(h:Wf d):pP d.1 d.2=true:=by unfold pP;have h1:=h.nv;have h2:=h.ne;simp only[Bool.and_eq_true,decide_eq_true_eq,List.all_eq_true];exact⟨by omega,by omega,fun v hv=>by have:=h.qh v hv;omega⟩
theorem VO(hG:HG G)(hp:Lx G)(o:aR):nQ G o:=by
 intro s h hm PL;have UC:=h.d.nv;have bw:=h.d.ne;have hn:=h.n;have VL:=h.d.small;have bS:=Lf hm;have start:∀(e:Int) (w:ba),bR 154 oz Tryz.f154 (FX G) (LX G 154 oz Tryz.f154) ((o,()),(aP s,()))=some ((e,()),(w,()))→FX G 154 oz ((o,()),(aP s,()))=some ((e,()),(w,())):=fun e w a =>az (hG _ _ rfl) a rfl;have f110:=Xr hG (aP s) (aH o) h.d.se (by show s.1.2.length≤_;omega);unfold oM
 cases hf:(aX s.1.2 (aH o)).isSome with
 |true =>have e1:tB (aP s) (aH o)=(12,aP s):=if_pos hf;rw[e1]at f110;refine⟨12,aP s,start _ _ ((Yo).trans (af (CZ h.d) (aa f110 (af rfl rfl)))),?_⟩;rw[if_pos (show(bZ s.1 (aH o)).isSome=true from hf)];rfl
 |false =>
 rw[if_neg (show ¬(bZ s.1 (aH o)).isSome=true by show ¬(aX s.1.2 (aH o)).isSome=true;rw[hf];simp)];by_cases h40:40≤s.1.2.length
 ·have e1:tB (aP s) (aH o)=(3,aP s):=(if_neg (show ¬(aX s.1.2 (aH o)).isSome=true by rw[hf];simp)).trans (if_pos h40);rw[e1]at f110;refine⟨3,aP s,start _ _ ((Yo).trans (af (CZ h.d) (aa f110 (af rfl rfl)))),?_⟩;rw[if_pos h40];rfl
 rw[if_neg h40];obtain⟨E,hE⟩:∃E,E=dA (aH o,(e0,0)) s.1.2:=⟨_,rfl⟩;have e1:tB (aP s) (aH o)=(0,(s.1.1,(E,(s.2,())))):=by rw[hE];exact(if_neg (show ¬(aX s.1.2 (aH o)).isSome=true by rw[hf];simp)).trans (if_neg h40)
 rw[e1]at f110;obtain⟨x,hx⟩:∃x:ae,x=(aH o,0):=⟨_,rfl⟩;obtain⟨y,hy⟩:∃y:ae,y=(aH o,1):=⟨_,rfl⟩;have f111:FX G 179 BF ((aH o,()),())=some ((x,y,()),()):=by rw[hx,hy];exact az (hG _ _ rfl) Xa rfl
 have f112:=fun c:ng=>adg hG s c h.d.sm (by omega);have go:∀(e:Int) (w:ba),LX G 154 oz Tryz.f154 mi (aO Tryz.prog 154 0) (((2:Int),((0:Int),())),(((s.1.1,(E,(s.2,()))),((s,()),((x,()),()))),([x,y],([oA o,oB o],()))))=some ((e,()),(w,()))→FX G 154 oz ((o,()),(aP s,()))=some ((e,()),(w,())):=fun e w a =>start _ _ ((Yo).trans (af (CZ h.d) (aa f110 (ag rfl (aa f111 a)))));by_cases hA:(bq s (oA o)).2.1=0
 case neg =>
  rw[if_pos hA];have aiO:bq s (oA o)=(zC,(13,())):=by
   unfold bq at hA ⊢
   cases hv:aQ s.1 (oA o).1 with
   |none=>rfl
   |some v=>rw[hv]at hA;exact absurd rfl hA
  refine⟨13,(s.1.1,(E,(s.2,()))),go _ _ ?_,rfl⟩;refine ao xw ?_;refine af rfl (af rfl (aa (a:=oA o) rfl (aa (f112 (oA o)) ?_)));rw[aiO];exact af rfl rfl
 rw[if_neg (fun k=>k hA)];obtain⟨va,ca⟩:=qg hA;obtain⟨cA,hcA⟩:∃c:ng,c=(bq s (oA o)).1:=⟨_,rfl⟩;have eA:bq s (oA o)=(cA,(0,())):=by
  rw[hcA];have:(bq s (oA o)).2=(0,()):=by have h1:(bq s (oA o)).2=((bq s (oA o)).2.1,()):=rfl;rw[h1,hA]
  rw[←this]
 have cAv:(bg s.1.1 cA.1).isSome=true:=by rw[hcA,ca];exact va
 obtain⟨v1,tc⟩:=adq.1 cAv;have YZ:=gP tc;obtain⟨d1,OX⟩:∃d1:aj,d1=bV (s.1.1,E) cA x:=⟨_,rfl⟩;have aiQ:s.1.1.set (bJ s.1.1 cA.1) (v1.1,(mq v1.2.1 cA.2 x,v1.2.2))=d1.1:=by rw[OX];exact MZ h.d.sv tc x
 have Xz:b8 d1.1:=by rw[OX];exact h.d.sv.re _ _
 have hl1:=(aci.1 (dn h.d.sv tc)).1;have XA:∀v∈d1.1,v.2.1.length≤50000000:=fun v hv=>by
  rw[OX]at hv;obtain⟨w,hw,rfl⟩:=adE.1 (show v∈s.1.1.map (sB cA.1 (mq (aW (s.1.1,E) cA.1) cA.2 x)) from hv);have h1:=h.d.qh w hw;unfold sB
  split
  ·have h2:=ze (aW (s.1.1,E) cA.1) cA.2 x;have h3:(aW (s.1.1,E) cA.1).length≤80:=by rw[←kL tc,iU (d:=(s.1.1,E)) h.d.sv YZ];exact h.d.qh v1 YZ
   show(mq (aW (s.1.1,E) cA.1) cA.2 x).length≤50000000;omega
  ·omega
 have d1l:d1.1.length=s.1.1.length:=by rw[OX];exact fG _ _ _
 have XB:∀(e:Int) (w:ba),LX G 154 oz Tryz.f154 mi (aO Tryz.prog 154 0) (((2:Int),((1:Int),())),(((d1.1,(E,(s.2,()))),((s,()),((x,()),()))),([x,y],([oA o,oB o],()))))=some ((e,()),(w,()))→FX G 154 oz ((o,()),(aP s,()))=some ((e,()),(w,())):=fun e w a=>by
  refine go _ _ ?_;refine ao xw ?_;refine af rfl (af rfl (aa (a:=oA o) rfl (aa (f112 (oA o)) ?_)));rw[eA];refine ag rfl (ag rfl ?_);refine aa (qu hG (s.1.1,(E,(s.2,()))) cA.1 h.d.sv VL.n) ?_;refine af (c8 (fi _) (aY hl1)) (aa (dn h.d.sv tc) ?_);refine af rfl (aa (a:=x) rfl ?_);refine aa (SR hG v1.2.1 cA.2 x (VL.r v1 YZ)) ?_;refine aa (dn h.d.sv tc) ?_;have key:∀a1:List ah,a1=d1.1→LX G 154 oz Tryz.f154 mi (aO Tryz.prog 154 0) (((2:Int),((1:Int),())),(((a1,(E,(s.2,()))),((s,()),((x,()),()))),([x,y],([oA o,oB o],()))))=some ((e,()),(w,())):=fun a1 E3=>by subst E3;exact a
  exact key _ aiQ
 by_cases hB:(bq s (oB o)).2.1=0
 case neg =>
  rw[if_pos hB];have aiR:bq s (oB o)=(zC,(13,())):=by
   unfold bq at hB ⊢
   cases hv:aQ s.1 (oB o).1 with
   |none=>rfl
   |some v=>rw[hv]at hB;exact absurd rfl hB
  refine⟨13,(d1.1,(E,(s.2,()))),XB _ _ ?_,rfl⟩;refine ao xw ?_;refine af rfl (af rfl (aa (a:=oB o) rfl (aa (f112 (oB o)) ?_)));rw[aiR];exact af rfl rfl
 rw[if_neg (fun k=>k hB)];obtain⟨vb,cb⟩:=qg hB;obtain⟨cB,hcB⟩:∃c:ng,c=if(aQ s.1 (oB o).1).isSome=true∧(oB o).2=(aH o,0) then oB o else(bq s (oB o)).1:=⟨_,rfl⟩
 have eB:bq s (oB o)=((bq s (oB o)).1,(0,())):=by
  have:(bq s (oB o)).2=(0,()):=by have h1:(bq s (oB o)).2=((bq s (oB o)).2.1,()):=rfl;rw[h1,hB]
  rw[←this]
 have cB1:cB.1=(oB o).1:=by rw[hcB];split;rfl;exact cb
 have cBv:(bg d1.1 cB.1).isSome=true:=by rw[OX];exact we _ (by rw[cB1];exact vb)
 obtain⟨v2,yq⟩:=adq.1 cBv;have adk:=gP yq;have wD:=(aci.1 (dn Xz yq)).1;obtain⟨d2,UR⟩:∃d2:aj,d2=bV d1 cB y:=⟨_,rfl⟩;have VP:d1.1.set (bJ d1.1 cB.1) (v2.1,(mq v2.2.1 cB.2 y,v2.2.2))=d2.1:=by rw[UR];exact MZ (e:=d1.2) Xz yq y
 have XC:gE s o=d2:=by rw[UR,OX,hcA,hcB,hx,hy,hE];rfl
 have hE2:d2.2=E:=by rw[UR,OX];rfl
 have hwf:Wf d2:=by
  rw[←XC];unfold gE;have hn0:aX s.1.2 (aH o)=none:=by simpa using hf
  refine h.d.link bS hn0 h40 (by rw[ca];exact va) ?_;rw[←hcB,cB1];exact vb
 have last:∀(e:Int) (w:ba),LX G 154 oz Tryz.f154 mi (aO Tryz.prog 154 0) (((2:Int),((2:Int),())),(((d2.1,(E,(s.2,()))),((s,()),((x,()),()))),([x,y],([oA o,oB o],()))))=some ((e,()),(w,()))→FX G 154 oz ((o,()),(aP s,()))=some ((e,()),(w,())):=fun e w a=>by
  refine XB _ _ ?_;refine ao xw ?_;refine af rfl (af rfl (aa (a:=oB o) rfl (aa (f112 (oB o)) ?_)));rw[eB];have key:∀a2:List ah,a2=d2.1→LX G 154 oz Tryz.f154 mi (aO Tryz.prog 154 0) (((2:Int),((2:Int),())),(((a2,(E,(s.2,()))),((s,()),((x,()),()))),([x,y],([oA o,oB o],()))))=some ((e,()),(w,())):=fun a2 DS=>by subst DS;exact a
  refine ag rfl (af rfl ?_);have qw:=jE (oB o).2 x;by_cases ZN:(oB o).2=x
  ·have ecB:cB=oB o:=by rw[hcB];exact if_pos ⟨vb,ZN.trans hx⟩
   refine af (qw.trans (decide_eq_true ZN)) ?_;rw[ecB]at yq wD VP;refine aa (qu hG (d1.1,(E,(s.2,()))) (oB o).1 Xz (by show d1.1.length≤_;omega)) ?_;refine af (c8 (fi _) (aY wD)) (aa (dn Xz yq) ?_);refine af rfl (aa (a:=y) rfl ?_);refine aa (SR hG v2.2.1 (oB o).2 y (XA v2 adk)) ?_;refine aa (dn Xz yq) ?_;exact key _ VP
  ·have ecB:cB=(bq s (oB o)).1:=by rw[hcB];exact if_neg (fun k=>ZN (k.2.trans hx.symm))
   refine ag (qw.trans (decide_eq_false ZN)) ?_;rw[ecB]at yq wD VP;refine aa (qu hG (d1.1,(E,(s.2,()))) (bq s (oB o)).1.1 Xz (by show d1.1.length≤_;omega)) ?_;refine af (c8 (fi _) (aY wD)) (aa (dn Xz yq) ?_);refine af rfl (aa (a:=y) rfl ?_);refine aa (SR hG v2.2.1 (bq s (oB o)).1.2 y (XA v2 adk)) ?_;refine aa (dn Xz yq) ?_;exact key _ VP
 have f114:=hp d2 hwf;rw[XC];have e2:(d2.1,E)=d2:=by rw[←hE2]
 by_cases hg:fW d2=0
 ·rw[if_neg (fun k=>k hg)];refine⟨0,(d2.1,(E,(s.2,()))),last _ _ ?_,?_⟩
  ·refine ao xw ?_;refine ag rfl ?_;have key:∀q:aj,q=d2→((FX G 172 BH ((q,()),())).bind fun(IF:((Bool×Unit)×Unit))=>cond (not IF.1.1) (some (((15:Int),()),((d2.1,(E,(s.2,()))),()))) (some (((0:Int),()),((d2.1,(E,(s.2,()))),()))))=some (((0:Int),()),((d2.1,(E,(s.2,()))),())):=fun q hq=>by subst hq;exact aa f114 (aV (decide_eq_true hg) rfl)
   exact key _ e2
  ·show(Ap (d2.1,(E,(s.2,()))),((0:Int),()))=((d2,s.2),(0,()));show(((d2.1,E),s.2),((0:Int),()))=((d2,s.2),(0,()));rw[e2]
 ·rw[if_pos hg];refine⟨15,(d2.1,(E,(s.2,()))),last _ _ ?_,rfl⟩;refine ao xw ?_;refine ag rfl ?_;have key:∀q:aj,q=d2→((FX G 172 BH ((q,()),())).bind fun(IF:((Bool×Unit)×Unit))=>cond (not IF.1.1) (some (((15:Int),()),((d2.1,(E,(s.2,()))),()))) (some (((0:Int),()),((d2.1,(E,(s.2,()))),()))))=some (((15:Int),()),((d2.1,(E,(s.2,()))),())):=fun q hq=>by subst hq;exact aa f114 (aV (decide_eq_false hg) rfl)
  exact key _ e2
theorem adl(hG:HG G)(row:List ae)(d:ae)(hl:row.length≤100000000):FX G 261 Ix ((row,d,()),())=some (wF (cC row d 1),()):=by
 refine az (hG _ _ rfl) abS ?_;have key:FX G 167 BP ((row,(d,((1:Int),()))),())=some (wF (cC row d 1),()):=by
  refine az (hG _ _ rfl) Xb ?_;refine aa (CD (hG _ _ rfl) row d (by omega)) ?_;unfold cC;by_cases hd:d∈row
  ·rw[if_pos hd];obtain⟨k,h1,h2,h3⟩:=fK hd;have aF:=(aci.1 h2).1;refine ag (decide_eq_false (show ¬idx d row 0<0 by omega)) ?_;refine ag (Gl hd) ?_;have Ve:IntKind.wrap .i64 (idx d row 0+1)=((k+1:Nat):Int):=by rw[h1,wrap_small (by omega) (by omega)];rfl
   have xF:(k+1)%row.length<row.length:=aeV _ (by omega);have hx:=aaY xF;refine aa (show aT row (Int.tmod (IntKind.wrap .i64 (idx d row 0+1)) ((row.length:Nat):Int))=some row[(k+1)%row.length] by rw[Ve,ru];exact aA hx) ?_;rw[h1,Int.toNat_natCast,hx];rfl
  ·rw[if_neg hd];exact af (decide_eq_true (eU.2 hd)) rfl
 refine aa key ?_;rfl
def Jt(x:ae):List ah→Option ae
 |[]=>none
 |v::r=>if x∈v.2.1 then cC v.2.1 x 1 else Jt x r
theorem M0{l:List ah}(h:Rw l){v:ah}{x:ae}(hv:v∈l)(hx:x∈v.2.1):∀r,(∀u∈r,u∈l)→v∈r→Jt x r=cC v.2.1 x 1
 |[],_,k=>by cases k
 |u::r,hs,k=>by
  rw[Jt];by_cases hu:x∈u.2.1
  ·rw[if_pos hu,h.one hv (hs u List.mem_cons_self) hx hu]
  ·rw[if_neg hu];rcases acp.1 k with e|k
   ·rw[e]at hx;exact absurd hx hu
   ·exact M0 h hv hx r (fun w hw=>hs w (acm _ hw)) k
theorem E4{x:ae}:∀{l:List ah},x∉ax l→Jt x l=none
 |[],_=>rfl
 |v::r,h=>by rw[iI,List.mem_append]at h;rw[Jt,if_neg (fun k=>h (.inl k))];exact E4 fun k=>h (.inr k)
theorem Ly{d:aj}(h:Rw d.1)(x:ae):Jt x d.1=oK d x:=by
 by_cases hx:x∈ax d.1
 ·obtain⟨v,hv,jF⟩:=bh.1 hx;rw[CS h hv jF];exact M0 h hv jF d.1 (fun _ k=>k) hv
 ·rw[E4 hx];unfold oK bP;rw[I3 hx]
theorem adm(hG:HG G)(d:aj)(x:ae)(hs:Sm d)(h:Rw d.1):FX G 258 yW ((d,x,()),())=some (wF (oK d x),()):=by
 have hv:=hs.v;rw[←Ly h x];refine az (hG _ _ rfl) abP ?_;have loop:∀(n i:Nat),i+n=d.1.length→LX G 258 yW Tryz.f258 vK (aO Tryz.prog 258 0) ((d.1,(((d.1.length:Nat):Int),((i:Int),()))),(((x,()),((zD,()),())),()))=some (wF (Jt x (d.1.drop i)),()):=by
  intro n
  induction n with
  |zero =>intro i hi;refine ao Mw ?_;refine ag (decide_eq_false (show ¬((i:Int)<((d.1.length:Nat):Int)) by omega)) ?_;rw[List.drop_eq_nil_of_le (by omega)];rfl
  |succ n ih =>
   intro i hi;have aF:i<d.1.length:=by omega
   refine ao Mw ?_;refine af (aY aF) (aa (aA (aaY aF)) ?_);refine aa (adl hG d.1[i].2.1 x (by have:=hs.r _ (adv aF);omega)) ?_;rw[List.drop_eq_getElem_cons aF,Jt];by_cases he:x∈d.1[i].2.1
   ·rw[if_pos he];unfold cC;rw[if_pos he];obtain⟨k,h1,h2,h3⟩:=fK he;have hl:=(aci.1 h2).1;have hm:((idx x d.1[i].2.1 0).toNat+1)%d.1[i].2.1.length<d.1[i].2.1.length:=aeV _ (by omega);rw[List.getElem?_eq_getElem hm];exact af rfl rfl
   ·rw[if_neg he];unfold cC;rw[if_neg he];refine ag rfl ?_;have:=ih (i+1) (by omega);rw[←aD aF (by omega)]at this;exact this
 have:=loop d.1.length 0 (by omega);rw[List.drop_zero]at this;exact this
theorem at_mem{d:aj}{x:ae}(h:(bP d x).isSome=true):x∈ax d.1:=by
 apply Classical.byContradiction;intro k;unfold bP at h;rw[I3 k]at h
 cases h
theorem adn(hG:HG G)(d:aj)(x:ae)(h:Wf d):FX G 255 Ew ((d,x,()),())=some (wF (IU d x),()):=by
 have hs:=h.sm;refine az (hG _ _ rfl) abN ?_;refine aa (Tt hG d x hs) ?_;have h1:(fQ zI (bP d x)).2.1=(bP d x).isSome:=gN _ _;unfold IU
 cases ha:(bP d x).isSome
 ·rw[if_neg (by simp)];exact aV (h1.trans ha) rfl
 ·rw[if_pos rfl];refine aV (h1.trans ha) ?_;refine aa (I9 (hG _ _ rfl) x (h.side (at_mem ha))) ?_;exact aa (adm hG d (au x) hs h.rw) rfl
theorem ado(hG:HG G)(d:aj)(hs:Sm d):FX G 249 vx ((d,()),())=some ((eV d.2,()),()):=by
 have he:=hs.e;refine az (hG _ _ rfl) abM ?_;have loop:∀(n i:Nat) (out:List ae),i+n=d.2.length→out.length=2*i→LX G 249 vx Tryz.f249 vH (aO Tryz.prog 249 0) ((d.2,(((d.2.length:Nat):Int),((i:Int),()))),((),(out,())))=some ((out++eV (d.2.drop i),()),()):=by
  intro n
  induction n with
  |zero =>intro i out hi ho;refine ao Mq ?_;refine ag (decide_eq_false (show ¬((i:Int)<((d.2.length:Nat):Int)) by omega)) ?_;rw[List.drop_eq_nil_of_le (by omega)];show some ((out,()),())=some ((out++[],()),());rw[List.append_nil]
  |succ n ih =>
   intro i out hi ho;have aF:i<d.2.length:=by omega
   refine ao Mq ?_;refine af (aY aF) (aa (aA (aaY aF)) ?_);refine aa (I9 (hG _ _ rfl) (d.2[i].1,0) (.inl rfl)) ?_;refine af (fits (by show out.length+2≤_;omega)) ?_;have:=ih (i+1) (out++[(d.2[i].1,0),(d.2[i].1,1)]) (by omega) (by simp[ho];omega);rw[List.drop_eq_getElem_cons aF];rw[←aD aF (by omega),List.append_assoc]at this;exact this
 exact loop d.2.length 0 [] (by omega) rfl
theorem Tv(hG:HG G)(l:List ah)(hl:l.length≤50000000):FX G 240238 kC ((l,()),())=some ((((al l:Nat):Int),()),()):=by
 refine az (hG _ _ rfl) Sc ?_;have loop:∀(n i m:Nat),i+n=l.length→m≤i→LX G 240238 kC Tryz.f238 jX (aO Tryz.prog 238 0) (((m:Int),(l,(((l.length:Nat):Int),((i:Int),())))),((),()))=some ((((m+al (l.drop i):Nat):Int),()),()):=by
  intro n
  induction n with
  |zero =>intro i m hi hm;refine ao Co ?_;refine ag (decide_eq_false (show ¬((i:Int)<((l.length:Nat):Int)) by omega)) ?_;rw[List.drop_eq_nil_of_le (by omega)];rfl
  |succ n ih =>
   intro i m hi hm;have aF:i<l.length:=by omega
   have aiT:FX G 239 It ((l[i],()),())=some ((l[i].2.1.isEmpty,()),()):=by
    refine az (hG _ _ rfl) abL ?_;have:(((l[i].2.1.length:Nat):Int)==0)=l[i].2.1.isEmpty:=by cases l[i].2.1<;>simp;omega
    exact congrArg (fun b:Bool=>some ((b,()),())) this
   refine ao Co ?_;refine af (aY aF) (aa (aA (aaY aF)) ?_);refine aa aiT ?_;rw[List.drop_eq_getElem_cons aF];unfold al;rw[List.countP_cons]
   cases hb:l[i].2.1.isEmpty
   ·refine ag rfl ?_;have:=ih (i+1) m (by omega) (by omega);rw[←aD aF (by omega)]at this;exact this
   ·refine af rfl ?_;have:=ih (i+1) (m+1) (by omega) (by omega);rw[←aD aF (by omega),←aD (i:=m) (n:=l.length) (by omega) (by omega)]at this;refine this.trans ?_;refine congrArg (fun q:Nat=>some ((((q:Nat):Int),()),())) ?_;unfold al;simp;omega
 have:=loop l.length 0 0 (by omega) (by omega);rw[List.drop_zero,Nat.zero_add]at this;exact this
def Fo(g:List Nat):Prop:=∀(i x:Nat),g[i]? = some x→x≤i
def root(g:List Nat)(i:Nat):Nat :=match g[i]? with
 |some x=>if h:x<i then root g x else i
 |none=>i
termination_by i
theorem dI{g:List Nat}{i x:Nat}(h:g[i]? = some x):root g i=if x<i then root g x else i:=by rw[root,h];simp
theorem lG{g:List Nat}{i:Nat}(h:g[i]? = none):root g i=i:=by rw[root,h]
theorem M1(g:List Nat):∀i,root g i≤i:=by
 intro i
 induction i using Nat.strongRecOn with
 |_ i ih =>
  cases h:g[i]? with
  |none=>rw[lG h];exact adj _
  |some x =>
   rw[dI h]
   split
   ·rename_i hx;have:=ih x hx;omega
   ·exact adj _
theorem Ju{g:List Nat}(hf:Fo g):∀i,i<g.length→g[root g i]? = some (root g i):=by
 intro i
 induction i using Nat.strongRecOn with
 |_ i ih =>
  intro hi;have h:=aaY hi;rw[dI h]
  split
  ·rename_i hx;exact ih _ hx (by omega)
  ·have:=hf i _ h;rw[h];congr 1;omega
theorem lH{g:List Nat}{i:Nat}(h:g[i]? = some i):root g i=i:=by rw[dI h,if_neg (by omega)]
theorem Fo.set{g:List Nat}(hf:Fo g){i y:Nat}(h:y≤i):Fo (g.set i y):=fun j x hj=>by
 rw[List.getElem?_set]at hj
 split at hj
 ·rename_i e;subst e
  split at hj
  ·cases hj;exact h
  ·cases hj
 ·exact hf j x hj
theorem LA{g:List Nat}(hf:Fo g){i x y:Nat}(hi:g[i]? = some x)(hx:g[x]? = some y)(aF:x<i):∀j,root (g.set i y) j=root g j:=by
 have hyx:=hf x y hx;have m0:=(aci.1 hi).1;intro j
 induction j using Nat.strongRecOn with
 |_ j ih =>
  by_cases e:j=i
  ·subst e;have h1:(g.set j y)[j]? = some y:=by rw[List.getElem?_set];simp[m0]
   rw[dI h1,if_pos (by omega),ih y (by omega),dI hi,if_pos aF,dI hx]
   split
   ·rfl
   ·have:y=x:=by omega
    subst this;exact lH hx
  ·have h1:(g.set i y)[j]? = g[j]? := by rw[List.getElem?_set,if_neg (fun k=>e k.symm)]
   cases h:g[j]? with
   |none=>rw[lG h,lG (h1.trans h)]
   |some z =>
    rw[dI h,dI (h1.trans h)]
    split
    ·rename_i hz;exact ih z hz
    ·rfl
theorem Pe{g:List Nat}{a b:Nat}(ha:g[a]? = some a)(hb:g[b]? = some b):∀j,root (g.set (max a b) (min a b)) j=if root g j=max a b then min a b else root g j:=by
 have hm:g[max a b]? = some (max a b):=by rcases Nat.le_total a b with h|h<;>simp[Nat.max_eq_right,Nat.max_eq_left,h,ha,hb]
 have hn:g[min a b]? = some (min a b):=by rcases Nat.le_total a b with h|h<;>simp[Nat.min_eq_right,Nat.min_eq_left,h,ha,hb]
 have hml:=(aci.1 hm).1;have hle:min a b≤max a b:=by omega
 generalize max a b=M at *;generalize min a b=m at *;have aF:∀j,(g.set M m)[j]? = if j=M then some m else g[j]? := fun j=>by
  rw[List.getElem?_set];by_cases e:M=j
  ·subst e;simp[hml]
  ·rw[if_neg e,if_neg (fun k=>e k.symm)]
 intro j
 induction j using Nat.strongRecOn with
 |_ j ih =>
  by_cases ej:j=M
  ·subst ej;have h1:(g.set j m)[j]? = some m:=by rw[aF,if_pos rfl]
   rw[dI h1,lH hm,if_pos rfl];by_cases e:m<j
   ·rw[if_pos e,ih m e,lH hn,if_neg (by omega)]
   ·rw[if_neg e];omega
  ·have h1:(g.set M m)[j]? = g[j]? := by rw[aF,if_neg ej]
   cases h:g[j]? with
   |none=>rw[lG h,lG (h1.trans h),if_neg ej]
   |some z =>
    rw[dI h,dI (h1.trans h)];by_cases hz:z<j
    ·rw[if_pos hz,if_pos hz];exact ih z hz
    ·rw[if_neg hz,if_neg hz,if_neg ej]
def fI(g:List Nat):List Int:=g.map fun n=>((n:Nat):Int)
theorem C0(g:List Nat):(fI g).length=g.length:=by simp[fI]
theorem uE{g:List Nat}{i x:Nat}(h:g[i]? = some x):(fI g)[Int.toNat (i:Int)]? = some (x:Int):=by simp[fI,h]
theorem Tw(g:List Nat)(i x:Nat):(fI g).set (Int.toNat (i:Int)) (x:Int)=fI (g.set i x):=by simp[fI,List.map_set]
theorem C1{g:List Nat}{i:Nat}(h:i<g.length):(decide ((0:Int)≤(i:Int))&&decide ((i:Int)<(((fI g).length:Nat):Int)))=true:=by rw[C0];exact c8 (fi i) (aY h)
structure E5(g g':List Nat):Prop where
 f:Fo g'
 n:g'.length=g.length
 r:∀j,root g' j=root g j
theorem E5.trans{a b c:List Nat}(h:E5 a b)(k:E5 b c):E5 a c:=⟨k.f,k.n.trans h.n,fun j=>(k.r j).trans (h.r j)⟩
theorem Tx(hG:HG G)(g:List Nat)(i:Nat)(hf:Fo g)(hi:i<g.length):∃g',E5 g g'∧FX G 260 rl (((i:Int),()),(fI g,()))=some ((((root g i:Nat):Int),()),(fI g',())):=by
 have loop:∀(i:Nat) (g:List Nat),Fo g→i<g.length→∃g',E5 g g'∧LX G 260 rl Tryz.f260 su (aO Tryz.prog 260 0) (((i:Int),()),((),(fI g,())))=some ((((root g i:Nat):Int),()),(fI g',())):=by
  intro i
  induction i using Nat.strongRecOn with
  |_ i ih =>
   intro g hf hi;have h:=aaY hi;generalize g[i]=x at h;have hxi:=hf i x h;by_cases hx:x<i
   ·have h2:=aaY (show x<g.length by omega);generalize g[x]=y at h2;have hyx:=hf x y h2;have hs:=LA hf h h2 hx;have hf2:Fo (g.set i y):=hf.set (by omega);obtain⟨g',h3,h4⟩:=ih y (by omega) (g.set i y) hf2 (by rw[List.length_set];omega);refine⟨g',⟨h3.f,by rw[h3.n,List.length_set],fun j=>(h3.r j).trans (hs j)⟩,?_⟩;refine ao Mx ?_;refine af (C1 hi) (aa (uE h) ?_);refine af (show(((x:Nat):Int) != (i:Int))=true by rw[bne_iff_ne];omega) ?_;refine af (C1 hi) (aa (uE h) ?_);refine af (C1 (show x<g.length by omega)) (aa (uE h2) ?_);refine af (C1 hi) (aa (uE h) ?_);have aiU:=Tw g i y;have key:∀f:List Int,f=fI (g.set i y)→cond ((decide ((0:Int)≤(i:Int)))&&(decide ((i:Int)<(((List.length f):Nat):Int)))) (((f)[(Int.toNat (i:Int))]?).bind fun(y5:Int)=>LX G 260 rl Tryz.f260 su (aO Tryz.prog 260 0) ((y5,()),((),(f,())))) none=some ((((root g i:Nat):Int),()),(fI g',())):=fun f hf=>by
     subst hf;refine af (C1 (by rw[List.length_set];exact hi)) (aa (uE (x:=y) (by rw[List.getElem?_set];simp[hi])) ?_);rw[h4,hs y,dI h,if_pos hx,dI h2];by_cases hy:y<x
     ·rw[if_pos hy]
     ·have:y=x:=by omega
      subst this;rw[if_neg (by omega),lH h2]
    exact key _ aiU
   ·have:x=i:=by omega
    subst this;refine⟨g,⟨hf,rfl,fun _=>rfl⟩,?_⟩;refine ao Mx ?_;refine af (C1 hi) (aa (uE h) ?_);rw[lH h];exact ag (by simp) rfl
 obtain⟨g',h1,h2⟩:=loop i g hf hi;exact⟨g',h1,az (hG _ _ rfl) abR h2⟩
def C2(a b r:Nat):Nat:=if r=max a b then min a b else r
theorem adp(hG:HG G)(g:List Nat)(i k:Nat)(hf:Fo g)(hi:i<g.length)(hk:k<g.length):∃g',Fo g'∧g'.length=g.length∧(∀j,root g' j=C2 (root g i) (root g k) (root g j))∧FX G 259 Iu (((i:Int),((k:Int),())),(fI g,()))=some ((),(fI g',())):=by
 obtain⟨g1,h1,e1⟩:=Tx hG g i hf hi;obtain⟨g2,h2,e2⟩:=Tx hG g1 k h1.f (by rw[h1.n];exact hk);rw[h1.r k]at e2;have hs:=h1.trans h2;have ra:g2[root g i]? = some (root g i):=by have:=Ju hs.f i (by rw[hs.n];exact hi);rw[hs.r i]at this;exact this
 have rb:g2[root g k]? = some (root g k):=by have:=Ju hs.f k (by rw[hs.n];exact hk);rw[hs.r k]at this;exact this
 have hal:=(aci.1 ra).1;have hbl:=(aci.1 rb).1;have hm:max (root g i) (root g k)<g2.length:=by omega
 refine⟨g2.set (max (root g i) (root g k)) (min (root g i) (root g k)),hs.f.set (by omega),by rw[List.length_set,hs.n],fun j=>by rw[Pe ra rb j,hs.r j];rfl,?_⟩;refine az (hG _ _ rfl) abQ ?_;refine aa e1 (aa e2 ?_);have em:(max ((root g i:Nat):Int) ((root g k:Nat):Int):Int)=((max (root g i) (root g k):Nat):Int):=by omega
 have en:(min ((root g i:Nat):Int) ((root g k:Nat):Int):Int)=((min (root g i) (root g k):Nat):Int):=by omega
 have key:∀m n:Int,m=((max (root g i) (root g k):Nat):Int)→n=((min (root g i) (root g k):Nat):Int)→cond ((decide ((0:Int)≤m))&&(decide (m<(((List.length (fI g2)):Nat):Int)))) (((fI g2)[(Int.toNat m)]?).bind fun(y3:Int)=>(some ((),((List.set (fI g2) (Int.toNat m) n),())):Option (Unit×((List Int)×Unit)))) none=some ((),(fI (g2.set (max (root g i) (root g k)) (min (root g i) (root g k))),())):=fun m n UO Kf=>by subst UO Kf;refine af (C1 hm) (aa (uE (aaY hm)) ?_);rw[Tw]
 exact key _ _ em en
theorem LB{α:Type}(x:ae)(es:List (ae×α)):tH br x es=es.findIdx? fun e=>decide (e.1=x):=by
 show List.findIdx? (fun e:ae×α=>((x.1.1==e.1.1.1)&&(x.1.2==e.1.1.2))&&(x.2==e.1.2)) es=_;congr 1;funext e;rw[jE x e.1];by_cases h:x=e.1
 ·rw[decide_eq_true h,decide_eq_true h.symm]
 ·rw[decide_eq_false h,decide_eq_false (fun k=>h k.symm)]
def fN{β α:Type}[DecidableEq β](x:β):List (β×α)→Option α
 |[]=>none
 |e::r=>if e.1=x then some e.2 else fN x r
theorem LC{β α:Type}[DecidableEq β](x:β):∀es:List (β×α),((es.findIdx? fun e=>decide (e.1=x)).bind fun i=>(es[i]?).map (·.2))=fN x es
 |[]=>rfl
 |e::r=>by
  have ih:=LC x r;rw[List.findIdx?_cons,fN];by_cases h:e.1=x
  ·rw[if_pos (decide_eq_true h),if_pos h];rfl
  ·rw[if_neg (by simpa using h),if_neg h,←ih]
   cases r.findIdx? fun e=>decide (e.1=x)<;>simp
theorem Ty{α:Type}(x:ae)(es:List (ae×α)):jg br x es=fN x es:=by have:=LC x es;rw[←LB]at this;exact this
theorem Tz{α:Type}{x:ae}(v:α){es:List (ae×α)}(h:x∉es.map (·.1)):mI br x v es=es++[(x,v)]:=by
 have e:tH br x es=none:=by rw[LB,List.findIdx?_eq_none_iff];intro q hq;exact decide_eq_false fun k=>h (adE.2 ⟨q,hq,k⟩)
 unfold mI
 split
 ·rename_i i k;rw[e]at k;cases k
 ·rfl
theorem Jv{β α:Type}[DecidableEq β]{x:β}{v:α}:∀{es:List (β×α)},(es.map (·.1)).Nodup→(x,v)∈es→fN x es=some v
 |[],_,h=>by cases h
 |e::r,hn,h=>by
  simp only[List.map_cons,List.nodup_cons]at hn;rw[fN];rcases acp.1 h with e1|h
  ·subst e1;rw[if_pos rfl]
  ·rw[if_neg (fun k=>hn.1 (by rw[k];exact List.mem_map.2 ⟨_,h,rfl⟩))];exact Jv hn.2 h
def il:List ah→Nat→List (ae×Int)
 |[],_=>[]
 |v::r,i=>v.2.1.map (fun x=>(x,(i:Int)))++il r (i+1)
theorem xV:∀(l:List ah) (i:Nat),(il l i).map (·.1)=ax l
 |[],_=>rfl
 |v::r,i=>by
  have e:(v.2.1.map fun x=>(x,(i:Int))).map (·.1)=v.2.1:=by rw[List.map_map];exact List.map_id _
  rw[il,iI,List.map_append,xV r,e]
theorem Jw:∀(a b:List ah) (i:Nat),il (a++b) i=il a i++il b (i+a.length)
 |[],b,i=>rfl
 |v::r,b,i=>by rw[List.cons_append,il,il,Jw r b,List.append_assoc];congr 3;simp;omega
theorem Jx{x:ae}{a:Int}:∀{l:List ah} {i:Nat},(x,a)∈il l i→∃k v,l[k]? = some v∧a=((i+k:Nat):Int)∧x∈v.2.1
 |[],i,h=>by cases h
 |v::r,i,h=>by
  rw[il]at h;rcases ac8.1 h with h|h
  ·obtain⟨y,hy,e⟩:=adE.1 h
   cases e
   exact⟨0,v,rfl,rfl,hy⟩
  ·obtain⟨k,u,h1,h2,h3⟩:=Jx h;exact⟨k+1,u,by simpa using h1,by rw[h2];congr 1;omega,h3⟩
theorem M3{x:ae}:∀{l:List ah} {i k:Nat} {v:ah},l[k]? = some v→x∈v.2.1→(x,((i+k:Nat):Int))∈il l i
 |v::r,i,0,u,h,hx=>by simp at h;subst h;rw[il];exact acq _ (adE.2 ⟨x,hx,rfl⟩)
 |v::r,i,k+1,u,h,hx=>by
  rw[il];refine ac2 _ ?_;have:=M3 (i:=i+1) (k:=k) (by simpa using h) hx
  rwa [show i+1+k=i+(k+1) by omega]at this
theorem TA(i:Nat):fI (List.range i)++[(i:Int)]=fI (List.range (i+1)):=by rw[List.range_succ];simp[fI]
section
variable {d:aj} {y:ib.B}
theorem VQ(h:Wf d){i:Nat}(hi:i<d.1.length){f:List Int}{nn:Int} (next:LX G 256 ib Tryz.f256 ss (aO Tryz.prog 256 0) ((d.1,(nn,((IntKind.wrap .i64 ((i:Int)+1)),()))),((),(f,(il (d.1.take (i+1)) 0,()))))=some y):∀(n j:Nat) (es:List (ae×Int)),j+n=d.1[i].2.1.length→es=il (d.1.take i) 0++(d.1[i].2.1.take j).map (fun x=>(x,(i:Int))) → LX G 256 ib Tryz.f256 vI (aO Tryz.prog 256 1) (((i:Int),(d.1,(nn,((i:Int),(d.1[i].2.1,(((d.1[i].2.1.length:Nat):Int),((j:Int),()))))))),((),(f,(es,()))))=some y:=by
 have hr:=h.qh d.1[i] (adv hi);have et:d.1.take (i+1)=d.1.take i++[d.1[i]]:=(List.take_append_getElem hi).symm;have ev:il (d.1.take (i+1)) 0=il (d.1.take i) 0++d.1[i].2.1.map (fun x=>(x,(i:Int))):=by
  rw[et,Jw];have:(d.1.take i).length=i:=by rw[List.length_take];omega
  rw[this,Nat.zero_add];congr 1;show d.1[i].2.1.map (fun x=>(x,(i:Int)))++[]=_;rw[List.append_nil]
 have nd:(ax (d.1.take i)++d.1[i].2.1).Nodup:=by
  have h1:=h.rw.n;rw[←List.take_append_drop (i+1) d.1,et,oR,oR]at h1;have e2:ax [d.1[i]]=d.1[i].2.1:=by rw[iI];exact List.append_nil _
  rw[e2]at h1;exact(aeA.1 h1).1
 intro n
 induction n with
 |zero =>intro j es hj he;refine ao Mt ?_;refine ag (decide_eq_false (show ¬((j:Int)<((d.1[i].2.1.length:Nat):Int)) by omega)) ?_;have e:d.1[i].2.1.take j=d.1[i].2.1:=List.take_of_length_le (by omega);rw[e,←ev]at he;subst he;exact next
 |succ n ih =>
  intro j es hj he;have aF:j<d.1[i].2.1.length:=by omega
  refine ao Mt ?_;refine af (aY aF) (aa (aA (aaY aF)) ?_);have Dx:d.1[i].2.1[j]∉es.map (·.1):=by
   have e3:((d.1[i].2.1.take j).map fun x=>(x,(i:Int))).map (·.1)=d.1[i].2.1.take j:=by rw[List.map_map];exact List.map_id _
   rw[he,List.map_append,xV,e3,List.mem_append];rintro(k|k)
   ·exact(aeA.1 nd).2.2 _ k _ (adv aF) rfl
   ·obtain⟨q,hq,he⟩:=aeO k;have hq1:q<j:=by rw[List.length_take]at hq;omega
    rw[List.getElem_take]at he;have:=(List.getElem_inj (aeA.1 nd).2.1).1 he;omega
  have:=ih (j+1) (mI br d.1[i].2.1[j] (i:Int) es) (by omega) (by rw[Tz _ Dx,he,←List.take_append_getElem aF,List.map_append,List.append_assoc];rfl);rw[←aD aF (by omega)]at this;exact this
theorem VR(h:Wf d) (next:LX G 256 ib Tryz.f256 pU (aO Tryz.prog 256 2) ((il d.1 0,()),((),(fI (List.range d.1.length),((none,il d.1 0),()))))=some y):∀(n i:Nat),i+n=d.1.length → LX G 256 ib Tryz.f256 ss (aO Tryz.prog 256 0) ((d.1,(((d.1.length:Nat):Int),((i:Int),()))),((),(fI (List.range i),(il (d.1.take i) 0,()))))=some y:=by
 have hn:=h.nv;intro n
 induction n with
 |zero =>
  intro i hi;have e:i=d.1.length:=by omega
  subst e;refine ao Mr ?_;refine ag (decide_eq_false (show ¬(((d.1.length:Nat):Int)<((d.1.length:Nat):Int)) by omega)) ?_;rw[List.take_length];exact next
 |succ n ih =>
  intro i hi;have aF:i<d.1.length:=by omega
  refine ao Mr ?_;refine af (aY aF) (aa (aA (aaY aF)) ?_);refine af (fits (by show(fI (List.range i)).length+1≤_;rw[C0];simp;omega)) ?_;have nx:=ih (i+1) (by omega);rw[←aD aF (by omega),←TA]at nx;exact VQ (G:=G) h aF nx d.1[i].2.1.length 0 _ (by omega) (by simp)
end
end Go.Vs
namespace Go.Vs
open Go.Proofs
variable {G:(f:FuncId)→(g:aS)→Option (g.A→Option g.B)}
theorem C3(a b:Nat):C2 a b a=min a b∧C2 a b b=min a b:=by unfold C2;constructor<;>split<;>omega
structure FoI(d:aj)(rem:List (ae×Int))(g:List Nat):Prop where
 f:Fo g
 n:g.length=d.1.length
 c:∀i,i<d.1.length→cU d (cO d i) (cO d (root g i))
 p:∀(z:ae) (i k:Nat),(z,(i:Int))∈il d.1 0→(au z,(k:Int))∈il d.1 0→(z,(i:Int))∉rem→root g i=root g k
theorem wo{d:aj}(h:Wf d){z:ae}{a:Int}(hm:(z,a)∈il d.1 0):∃i:Nat,i<d.1.length∧a=(i:Int)∧z∈ax d.1∧bP d z=some (cO d i):=by obtain⟨k,v,h1,h2,h3⟩:=Jx hm;rw[Nat.zero_add]at h2;have hv:=adh h1;refine⟨k,(aci.1 h1).1,h2,bh.2 ⟨v,hv,h3⟩,?_⟩;rw[nk h1];exact iJ h.rw hv h3
theorem LD{d:aj}(h:Wf d){z:ae}(hz:z∈ax d.1):∃i:Nat,(z,(i:Int))∈il d.1 0:=by obtain⟨v,hv,hx⟩:=bh.1 hz;obtain⟨k,hk⟩:=aeM hv;have:=M3 (i:=0) hk hx;rw[Nat.zero_add]at this;exact⟨k,this⟩
theorem M4{d:aj}(h:Wf d){z:ae}{a:Int}(hm:(z,a)∈il d.1 0):jg br z (il d.1 0)=some a:=by rw[Ty];refine Jv ?_ hm;rw[xV];exact h.rw.n
theorem FoI.same{d:aj}(h:Wf d){g:List Nat}(hg:FoI d [] g){a b:ID}(k:cU d a b):∀i j,i<d.1.length→j<d.1.length→cO d i=a→cO d j=b→root g i=root g j:=by
 induction k with
 |refl=>intro i j hi hj h1 h2;rw[jB h.sv hi hj (h1.trans h2.symm)]
 |tail _ s ih =>
  intro i j hi hj h1 h2;obtain⟨z,hz,s1,s2⟩:=s;obtain⟨m,hm⟩:=LD h hz;obtain⟨q,hq⟩:=LD h (h.other hz);obtain⟨m',m1,m2,_,m3⟩:=wo h hm;obtain⟨q',q1,q2,_,q3⟩:=wo h hq;have em:m'=m:=by omega
  have eq:q'=q:=by omega
  subst em;subst eq;rw[s1]at m3;rw[s2]at q3;have r1:=ih i m' hi m1 h1 (ac5 m3).symm;have r2:=hg.p z m' q' hm hq (by simp);have ej:q'=j:=jB h.sv q1 hj ((ac5 q3).symm.trans h2.symm);rw[r1,r2,ej]
theorem FoI.can{d:aj}(h:Wf d){g:List Nat}(hg:FoI d [] g):Jn d (fI ((List.range d.1.length).map (root g))):=by
 have nH:∀i,i<d.1.length→(fI ((List.range d.1.length).map (root g))).getD i 0=((root g i:Nat):Int):=fun i hi=>by unfold fI;simp[List.getD,hi]
 refine⟨⟨by rw[C0];simp,fun i hi=>⟨root g i,M1 g i,nH i hi,hg.c i hi⟩⟩,fun i hi j hj k=>?_⟩;rw[nH i hi,hg.same h k i j hi hj rfl rfl];have:=M1 g j;omega
theorem VS(hG:HG G){d:aj}(h:Wf d){g:List Nat}:∀(n i:Nat) (g':List Nat),i+n=d.1.length→Fo g'→g'.length=d.1.length→(∀j,root g' j=root g j) → LX G 256 ib Tryz.f256 vJ (aO Tryz.prog 256 3) ((((d.1.length:Nat):Int),((i:Int),())),((),(fI g',(fI ((List.range i).map (root g)),()))))=some ((fI ((List.range d.1.length).map (root g)),()),()):=by
 have UC:=h.nv;intro n
 induction n with
 |zero =>
  intro i g' hi h1 h2 h3;have e:i=d.1.length:=by omega
  subst e;refine ao Mv ?_;exact ag (decide_eq_false (show ¬(((d.1.length:Nat):Int)<((d.1.length:Nat):Int)) by omega)) rfl
 |succ n ih =>
  intro i g' hi h1 h2 h3;have aF:i<d.1.length:=by omega
  obtain⟨g2,s,e⟩:=Tx hG g' i h1 (by omega);refine ao Mv ?_;refine af (aY aF) (aa e ?_);refine af (fits (by show(fI _).length+1≤_;rw[C0];simp;omega)) ?_;have:=ih (i+1) g2 (by omega) s.f (by rw[s.n,h2]) (fun j=>(s.r j).trans (h3 j));have e2:fI ((List.range (i+1)).map (root g))=fI ((List.range i).map (root g))++[((root g' i:Nat):Int)]:=by rw[List.range_succ,h3 i];simp[fI]
  rw[e2,←aD aF (by omega)]at this;exact this
theorem VT(hG:HG G){d:aj}(h:Wf d):∀(n:Nat) (rem:List (ae×Int)) (g:List Nat) (o:Option (ae×Int)),rem.length=n→(∀e∈rem,e∈il d.1 0)→FoI d rem g → LX G 256 ib Tryz.f256 pU (aO Tryz.prog 256 2) ((il d.1 0,()),((),(fI g,((o,rem),()))))=some ((labels d,()),()):=by
 intro n
 induction n with
 |zero =>
  intro rem g o hn hr hg;have e:rem=[]:=adx hn;subst e;refine ao Mu ?_;refine af rfl ?_;have:=VS (G:=G) hG h (g:=g) d.1.length 0 g (by omega) hg.f hg.n (fun _=>rfl);rw[(hg.can h).uniq h (fH h)]at this;have e2:((fI g).length:Int)=((d.1.length:Nat):Int):=by rw[C0,hg.n]
  rw[←e2]at this;exact this
 |succ n ih =>
  intro rem g o hn hr hg;refine ao Mu ?_;refine ag (show rem.isEmpty=false by cases rem with|nil=>simp at hn|cons _ _=>rfl) ?_;refine mZ (show 0<rem.length by omega) fun j hj=>?_;have hj':j<rem.length:=hj;refine aa (aaY hj') ?_;have hm:=hr _ (adv hj');generalize he:rem[j]=e at hm;obtain⟨z,a⟩:=e;obtain⟨i,hi,ha,hz,haz⟩:=wo h hm;subst ha;obtain⟨k,hk⟩:=LD h (h.other hz);obtain⟨k',wE,ek,_,hak⟩:=wo h hk;have ek':k'=k:=by omega
  subst ek';refine aa (I9 (hG _ _ rfl) z (h.side hz)) ?_;have nH:jg br (au z) (il d.1 0)=some (k':Int):=M4 h hk;refine af (show(jg br (au z) (il d.1 0)).isSome=true by rw[nH];rfl) ?_;obtain⟨g',h1,h2,h3,h4⟩:=adp hG g i k' hg.f (by rw[hg.n];exact hi) (by rw[hg.n];exact wE);refine aa (a:=((),(fI g',()))) (by
   have:(jg br (au z) (il d.1 0)).getD (0:Int)=(k':Int):=by rw[nH];rfl
   rw[←this]at h4;exact h4) ?_
  have aiW:Jl d (cO d i) (cO d k'):=⟨z,hz,haz,hak⟩;have cij:cU d (cO d (root g i)) (cO d (root g k')):=((hg.c i hi).symm h).trans (aiW.conn.trans (hg.c k' wE));refine ih (rem.eraseIdx j) g' _ (by rw[List.length_eraseIdx,if_pos hj'];omega) (fun e he=>hr e (List.mem_of_mem_eraseIdx he)) ⟨h1,h2.trans hg.n,fun q hq=>?_,fun y p q hp hq hy=>?_⟩
  ·rw[h3 q];unfold C2
   split
   ·rename_i e;refine(hg.c q hq).trans ?_;rw[e];rcases Nat.le_total (root g i) (root g k') with hle|hle
    ·rw[Nat.max_eq_right hle,Nat.min_eq_left hle];exact cij.symm h
    ·rw[Nat.max_eq_left hle,Nat.min_eq_right hle];exact cij
   ·exact hg.c q hq
  ·rw[h3 p,h3 q];by_cases qy:(y,(p:Int))∈rem
   ·
    have e:(y,(p:Int))=(z,(i:Int)):=by apply Classical.byContradiction;intro ne;apply hy;rw[List.mem_eraseIdx_iff_getElem];obtain⟨t,ht,hte⟩:=aeO qy;refine⟨t,ht,fun k=>?_,hte⟩;subst k;exact ne (hte.symm.trans he)
    have e1:y=z:=congrArg Prod.fst e;have e2:p=i:=by have:=congrArg Prod.snd e;simp at this;omega
    subst e1;subst e2;have h5:=M4 h hq;rw[nH]at h5;have e3:q=k':=by have:=ac5 h5;omega
    subst e3;rw[(C3 _ _).1,(C3 _ _).2]
   ·rw[hg.p y p q hp hq qy]
theorem LF(n:Nat):∀i,root (List.range n) i=i:=fun i=>by
 cases h:(List.range n)[i]? with
 |none=>exact lG h
 |some x =>
  have:x=i:=by rw[List.getElem?_range (by have:=(List.getElem?_eq_some_iff.1 h).1;simpa using this)]at h;exact(ac5 h).symm
  subst this;exact lH h
theorem adr(hG:HG G)(d:aj)(h:Wf d):FX G 256 ib ((d,()),())=some ((labels d,()),()):=by
 refine az (hG _ _ rfl) abO ?_;refine VR (G:=G) h ?_ d.1.length 0 (by omega);refine VT hG h _ (il d.1 0) (List.range d.1.length) none rfl (fun _ k=>k) ⟨fun i x hx=>?_,by simp,fun i hi=>?_,fun z i k h1 h2 h3=>absurd h1 h3⟩
 ·have:=(aci.1 hx).1;rw[List.getElem?_range (by simpa using this)]at hx;have:=ac5 hx;omega
 ·rw[LF];exact .refl _
structure PG(G:(f:FuncId)→(g:aS)→Option (g.A→Option g.B)):Prop where
 h:HG G
 f:∀d,Wf d→FX G 240 yU ((d,()),())=some ((cZ d,()),())
 c:∀d,Wf d→FX G 241 yV ((d,()),())=some ((fb d,()),())
theorem ads(hp:PG G)(d:aj)(h:Wf d):FX G 226 Ir ((d,()),())=some ((((d.1.length:Nat):Int),(((d.2.length:Nat):Int),(((ft d:Nat):Int),(fb d,())))),()):=by
 have hn:=h.nv;have hf:=wm h;have ha:al d.1≤d.1.length:=aeL;refine az (hp.h _ _ rfl) abH ?_;refine aa (Tv hp.h d.1 (by omega)) ?_;refine aa (hp.f d h) (aa (hp.c d h) ?_);have e:IntKind.wrap .i64 ((((cZ d).length:Nat):Int)+((al d.1:Nat):Int))=((ft d:Nat):Int):=by rw[wrap_small (by omega) (by omega)];rfl
 exact congrArg (fun n:Int=>some ((((d.1.length:Nat):Int),(((d.2.length:Nat):Int),(n,(fb d,())))),())) e
theorem adt(hp:PG G)(d:aj)(h:Wf d):FX G 204 Im ((d,()),())=some ((fW d,()),()):=by
 have hn:=h.nv;have bw:=h.ne;have hf:=wm h;have ha:al d.1≤d.1.length:=aeL;refine az (hp.h _ _ rfl) abw ?_;refine aa (ads hp d h) (ag rfl ?_);have hr:=nm h (fH h);obtain⟨k,e1,e2⟩:=Tp h hr;have ec:=sM h;have PE:(kW d (labels d)).length≤d.1.length:=by unfold kW;rw[List.length_map];refine adC (aew _ _) ?_;simp
 have hft:ft d≤80+d.1.length:=by unfold ft;omega
 refine congrArg (fun n:Int=>some ((n,()),())) ?_;show IntKind.wrap .i64 (fb d-IntKind.wrap .i64 (Int.tdiv (IntKind.wrap .i64 ((IntKind.wrap .i64 (((d.1.length:Nat):Int)-((d.2.length:Nat):Int)))+((ft d:Nat):Int))) 2))=fW d;rw[e1,ec];have hk:(k:Int)≤1000:=by omega
 rw[wrap_small (n:=((d.1.length:Nat):Int)-((d.2.length:Nat):Int)) (by omega) (by omega)];rw[wrap_small (n:=((d.1.length:Nat):Int)-((d.2.length:Nat):Int)+((ft d:Nat):Int)) (by omega) (by omega)];have e3:((d.1.length:Nat):Int)-((d.2.length:Nat):Int)+((ft d:Nat):Int)=2*((((kW d (labels d)).length:Nat):Int)-(k:Int)):=by omega
 rw[e3,Int.mul_tdiv_cancel_left _ (by decide)];rw[wrap_small (n:=(((kW d (labels d)).length:Nat):Int)-(k:Int)) (by omega) (by omega)];rw[wrap_small (by omega) (by omega)];omega
theorem VU(hp:PG G):Lx G:=fun d h=>by refine az (hp.h _ _ rfl) abe ?_;refine aa (adt hp d h) ?_;refine congrArg (fun b:Bool=>some ((b,()),())) ?_;show(fW d==0)=decide (fW d=0);rw[Bool.eq_iff_iff];simp
end Go.Vs
