/- What the program computes of -/
import Derived.Test.YtpkfpbpbkabkdaaGreatEuler
set_option linter.unusedVariables false
set_option linter.unusedSimpArgs false
namespace Go.Vs
open Go.Proofs
variable {G:(f:FuncId)→(g:aS)→Option (g.A→Option g.B)}
theorem Lx(w:ah)(r:List ah)(x:ID):bg (w::r) x=if w.1=x then some w else bg r x:=by unfold bg;rw[List.find?_cons];by_cases h:w.1=x<;>simp[h]
theorem Tw(hG:HG G)(l:List ah)(x:ID)(hl:l.length≤1073741824):FX G 110108 kC ((l,x,()),())=some (fR zV (bg l x),()):=by
 refine az (hG _ _ rfl) Se ?_;have loop:∀(n i:Nat),i+n=l.length→LX G 110108 kC Tryz.f108 mo (aO Tryz.prog 108 0) ((l,(((l.length:Nat):Int),((i:Int),()))),(((x,()),(((0:Int),((0:Int),(([]:List ae),(e0,((0:Int),()))))),())),()))=some (fR zV (bg (l.drop i) x),()):=by
  intro n
  induction n with
  |zero =>intro i hi;refine ao Cr ?_;refine ag (decide_eq_false (show ¬((i:Int)<((l.length:Nat):Int)) by omega)) ?_;rw[List.drop_eq_nil_of_le (by omega)];rfl
  |succ n ih =>
   intro i hi;have aF:i<l.length:=by omega
   have aiR:FX G 109 It ((l[i],()),())=some ((l[i].1,()),()):=az (hG _ _ rfl) abJ rfl;refine ao Cr ?_;refine af (aY aF) (aa (aA (aaV aF)) ?_);refine aa aiR ?_;rw[List.drop_eq_getElem_cons aF,Lx];by_cases he:l[i].1=x
   ·rw[if_pos he];exact af ((gN l[i].1 x).trans (decide_eq_true he)) rfl
   ·rw[if_neg he];refine ag ((gN l[i].1 x).trans (decide_eq_false he)) ?_;have:=ih (i+1) (by omega);rw[←aD aF hl]at this;exact this
 have:=loop l.length 0 (by omega);rw[List.drop_zero]at this;exact this
theorem Jv(hG:HG G)(d:aj)(x:ID)(hs:Sm d):FX G 74 tz ((d,x,()),())=some (fR zV (aQ d x),()):=by
 have hv:=hs.v;refine az (hG _ _ rfl) abw ?_;refine aa (Tw hG d.1 x (by omega)) ?_;unfold aQ
 cases hf:bg d.1 x with
 |none=>exact aa (YP (hG _ _ rfl) [] (by simp)) rfl
 |some v=>exact aa (YP (hG _ _ rfl) v.2.1 (hs.r v (gQ hf))) rfl
theorem Tx(w:ah)(r:List ah)(x:ae):Gt (w::r) x=if x∈w.2.1 then some w.1 else Gt r x:=by unfold Gt;rw[List.find?_cons];by_cases h:x∈w.2.1<;>simp[h]
theorem Ty(hG:HG G)(d:aj)(x:ae)(hs:Sm d):FX G 139 tB ((d,x,()),())=some (fR zI (bP d x),()):=by
 have hv:=hs.v;refine az (hG _ _ rfl) abK ?_;have loop:∀(n i:Nat),i+n=d.1.length→LX G 139 tB Tryz.f139 vI (aO Tryz.prog 139 0) ((d.1,(((d.1.length:Nat):Int),((i:Int),()))),(((x,()),((zI,()),())),()))=some (fR zI (Gt (d.1.drop i) x),()):=by
  intro n
  induction n with
  |zero =>intro i hi;refine ao Mr ?_;refine ag (decide_eq_false (show ¬((i:Int)<((d.1.length:Nat):Int)) by omega)) ?_;rw[List.drop_eq_nil_of_le (by omega)];rfl
  |succ n ih =>
   intro i hi;have aF:i<d.1.length:=by omega
   refine ao Mr ?_;refine af (aY aF) (aa (aA (aaV aF)) ?_);refine aa (EO hG d.1[i].2.1 x (by have:=hs.r _ (adg aF);omega)) ?_;rw[List.drop_eq_getElem_cons aF,Tx];by_cases he:x∈d.1[i].2.1
   ·rw[if_pos he];exact af (decide_eq_true he) rfl
   ·rw[if_neg he];refine ag (decide_eq_false he) ?_;have:=ih (i+1) (by omega);rw[←aD aF (by omega)]at this;exact this
 have:=loop d.1.length 0 (by omega);rw[List.drop_zero]at this;exact this
def Ly(x:ae):List aB→Int→Int
 |[],_ => -1
 |g::r,i=>if g.1=x then i else Ly x r (i+1)
theorem Jw(x:ae):∀(l:List aB) (i:Nat),(Ly x l i = -1∧gD l x=none)∨∃k g,Ly x l (i:Int)=((i+k:Nat):Int)∧l[k]? = some g∧gD l x=some g.2
 |[],i=>.inl ⟨rfl,rfl⟩
 |g::r,i=>by
  rw[Ly,qh];by_cases h:g.1=x
  ·rw[if_pos h,if_pos h];exact .inr ⟨0,g,by simp,by simp,rfl⟩
  ·rw[if_neg h,if_neg h];have e:(i:Int)+1=((i+1:Nat):Int):=by omega
   rw[e];rcases Jw x r (i+1) with⟨h1,h2⟩|⟨k,q,h1,h2,h3⟩
   ·exact .inl ⟨h1,h2⟩
   ·exact .inr ⟨k+1,q,by rw[h1];congr 1;omega,by simpa using h2,h3⟩
theorem Tz(hG:HG G)(l:List aB)(x:ae)(hl:l.length≤1073741824):FX G 246244 jy ((l,()),((x,()),()))=some ((Ly x l 0,()),((x,()),())):=by
 refine az (hG _ _ rfl) Sh ?_;have loop:∀(n i:Nat),i+n=l.length→LX G 246244 jy Tryz.f244 jX (aO Tryz.prog 244 0) ((l,(((l.length:Nat):Int),((i:Int),()))),(((x,()),()),()))=some ((Ly x (l.drop i) i,()),((x,()),())):=by
  intro n
  induction n with
  |zero =>intro i hi;refine ao Ct ?_;refine ag (decide_eq_false (show ¬((i:Int)<((l.length:Nat):Int)) by omega)) ?_;rw[List.drop_eq_nil_of_le (by omega)];rfl
  |succ n ih =>
   intro i hi;have aF:i<l.length:=by omega
   have aiS:FX G 245 Iy ((l[i],()),((x.1.1,(x.1.2,(x.2,()))),()))=some (((((l[i].1.1.1==x.1.1)&&(l[i].1.1.2==x.1.2))&&(l[i].1.2==x.2)),()),((x.1.1,(x.1.2,(x.2,()))),())) :=az (hG _ _ rfl) abP rfl;refine ao Ct ?_;refine af (aY aF) (aa (aA (aaV aF)) ?_);refine aa aiS ?_;rw[List.drop_eq_getElem_cons aF,Ly];by_cases he:l[i].1=x
   ·rw[if_pos he];exact af ((jF l[i].1 x).trans (decide_eq_true he)) rfl
   ·rw[if_neg he];refine ag ((jF l[i].1 x).trans (decide_eq_false he)) ?_;have:=ih (i+1) (by omega);have e:=aD aF hl;show LX G 246244 jy Tryz.f244 jX (aO Tryz.prog 244 0) ((l,(((l.length:Nat):Int),(IntKind.wrap .i64 ((i:Int)+1),()))),(((x,()),()),()))=some ((Ly x (l.drop (i+1)) ((i+1:Nat):Int),()),((x,()),()));rw[e];exact this
 have:=loop l.length 0 (by omega);rw[List.drop_zero]at this;exact this
theorem adk(hG:HG G)(l:List aB)(x:ae)(hl:l.length≤1073741824):FX G 230 Iu ((l,x,()),())=some (fR zD (gD l x),()):=by
 refine az (hG _ _ rfl) abL ?_;refine aa (Tz hG l x hl) ?_;rcases Jw x l 0 with⟨h1,h2⟩|⟨k,g,h1,h2,h3⟩
 ·have h1:Ly x l 0 = -1:=h1;rw[h2];exact af (decide_eq_true (show Ly x l 0<0 by omega)) rfl
 ·have h1:Ly x l 0=(k:Int):=by have:Ly x l ((0:Nat):Int)=Ly x l 0:=rfl;rw[←this,h1];congr 1;omega
  rw[h3];refine ag (decide_eq_false (show ¬Ly x l 0<0 by omega)) ?_;refine aa (show aT l (Ly x l 0)=some g by rw[h1];exact aA h2) ?_;rfl
theorem adl(hG:HG G)(s:StateT)(x:ae)(hs:Sm s.1)(hg:s.2.length≤50000000):FX G 212 yX ((s,x,()),())=some ((resolve s x,()),()):=by
 refine az (hG _ _ rfl) abx ?_;have hw:IntKind.wrap .i64 (((s.2.length:Nat):Int)+1)=((s.2.length+1:Nat):Int):=by rw[wrap_small (by omega) (by omega)];rfl
 have loop:∀(n i:Nat) (y:ae),i+n=s.2.length+1→LX G 212 yX Tryz.f212 vE (aO Tryz.prog 212 0) (((IntKind.wrap .i64 (((s.2.length:Nat):Int)+1)),((i:Int),())),(((s,()),((y,()),((zD,()),()))),()))=some ((res s.1 s.2 n y,()),()):=by
  intro n
  induction n with
  |zero =>intro i y hi;refine ao Mn ?_;exact ag (decide_eq_false (show ¬((i:Int)<IntKind.wrap .i64 (((s.2.length:Nat):Int)+1)) by rw[hw];omega)) rfl
  |succ n ih =>
   intro i y hi;refine ao Mn ?_;refine af (decide_eq_true (show((i:Int)<IntKind.wrap .i64 (((s.2.length:Nat):Int)+1)) by rw[hw];omega)) ?_;refine aa (Ty hG s.1 y hs) ?_;rw[res];have h1:(fR zI (bP s.1 y)).2.1=(bP s.1 y).isSome:=gO _ _
   cases ha:(bP s.1 y).isSome
   ·rw[if_neg (by simp)];refine ag (h1.trans ha) ?_;refine aa (adk hG s.2 y (by omega)) ?_
    cases hf:gD s.2 y with
    |none=>exact af rfl rfl
    |some z =>
     refine ag rfl ?_;have:=ih (i+1) z (by omega);have e:IntKind.wrap .i64 ((i:Int)+1)=((i+1:Nat):Int):=by rw[wrap_small (by omega) (by omega)];rfl
     rw[←e]at this;exact this
   ·rw[if_pos rfl];exact af (h1.trans ha) rfl
 exact loop (s.2.length+1) 0 x (by omega)
theorem adm(hG:HG G)(s:StateT)(c:ni)(hs:Sm s.1)(hg:s.2.length≤50000000):FX G 180 Ip ((s,c,()),())=some (bq s c,()):=by
 refine az (hG _ _ rfl) abh ?_;refine aa (Jv hG s.1 c.1 hs) ?_;unfold bq
 cases hf:aQ s.1 c.1 with
 |none=>exact af rfl rfl
 |some v =>
  refine ag rfl ?_;refine aa (adl hG s c.2 hs hg) ?_;refine aa (EO hG v.2.1 (resolve s c.2) (by have:=hs.r v (gQ hf);omega)) ?_;show _=some (((c.1,wa s c v),((0:Int),())),());unfold wa;by_cases hm:resolve s c.2∈v.2.1
  ·rw[if_pos hm];exact aV (decide_eq_true hm) rfl
  ·rw[if_neg hm];exact aV (decide_eq_false hm) rfl
def LA(G:(f:FuncId)→(g:aS)→Option (g.A→Option g.B)):Prop:=∀d,Wf d→FX G 172 BO ((d,()),())=some ((decide (fX d=0),()),())
theorem M1{l:List ah}{e:List ai}{c:ni}{v:ah}(hs:cc l)(hf:bg l c.1=some v)(x:ae):l.set (bJ l c.1) (v.1,(mw v.2.1 c.2 x,v.2.2))=(bV (l,e) c x).1:=by rw[Lk hs (dp hs hf)];have hi:=kM hf;have hm:=gQ hf;unfold bV Vs.cp;rw[←hi,iX (d:=(l,e)) hs hm]
theorem C5{d:aj}(h:Wf d):pR d.1 d.2=true:=by unfold pR;have h1:=h.nv;have h2:=h.ne;simp only[Bool.and_eq_true,decide_eq_true_eq,List.all_eq_true];exact⟨by omega,by omega,fun v hv=>by have:=h.qj v hv;omega⟩
theorem VS(hG:HG G)(hp:LA G)(o:aR):nR G o:=by
 intro s h hm PQ;have UG:=h.d.nv;have bw:=h.d.ne;have hn:=h.n;have VP:=h.d.small;have bR:=Li hm;have start:∀(e:Int) (w:ba),bS 154 oD Tryz.f154 (FX G) (LX G 154 oD Tryz.f154) ((o,()),(aP s,()))=some ((e,()),(w,()))→FX G 154 oD ((o,()),(aP s,()))=some ((e,()),(w,())):=fun e w a =>az (hG _ _ rfl) a rfl;have f110:=Xv hG (aP s) (aH o) h.d.se (by show s.1.2.length≤_;omega);unfold oP
 cases hf:(aX s.1.2 (aH o)).isSome with
 |true =>have e1:tG (aP s) (aH o)=(12,aP s):=if_pos hf;rw[e1]at f110;refine⟨12,aP s,start _ _ ((Ys).trans (af (C5 h.d) (aa f110 (af rfl rfl)))),?_⟩;rw[if_pos (show(bZ s.1 (aH o)).isSome=true from hf)];rfl
 |false =>
 rw[if_neg (show ¬(bZ s.1 (aH o)).isSome=true by show ¬(aX s.1.2 (aH o)).isSome=true;rw[hf];simp)];by_cases h40:40≤s.1.2.length
 ·have e1:tG (aP s) (aH o)=(3,aP s):=(if_neg (show ¬(aX s.1.2 (aH o)).isSome=true by rw[hf];simp)).trans (if_pos h40);rw[e1]at f110;refine⟨3,aP s,start _ _ ((Ys).trans (af (C5 h.d) (aa f110 (af rfl rfl)))),?_⟩;rw[if_pos h40];rfl
 rw[if_neg h40];obtain⟨E,hE⟩:∃E,E=dC (aH o,(e0,0)) s.1.2:=⟨_,rfl⟩;have e1:tG (aP s) (aH o)=(0,(s.1.1,(E,(s.2,())))):=by rw[hE];exact(if_neg (show ¬(aX s.1.2 (aH o)).isSome=true by rw[hf];simp)).trans (if_neg h40)
 rw[e1]at f110;obtain⟨x,hx⟩:∃x:ae,x=(aH o,0):=⟨_,rfl⟩;obtain⟨y,hy⟩:∃y:ae,y=(aH o,1):=⟨_,rfl⟩;have f111:FX G 179 BM ((aH o,()),())=some ((x,y,()),()):=by rw[hx,hy];exact az (hG _ _ rfl) Xe rfl
 have f112:=fun c:ni=>adm hG s c h.d.sm (by omega);have go:∀(e:Int) (w:ba),LX G 154 oD Tryz.f154 mn (aO Tryz.prog 154 0) (((2:Int),((0:Int),())),(((s.1.1,(E,(s.2,()))),((s,()),((x,()),()))),([x,y],([oA o,oB o],()))))=some ((e,()),(w,()))→FX G 154 oD ((o,()),(aP s,()))=some ((e,()),(w,())):=fun e w a =>start _ _ ((Ys).trans (af (C5 h.d) (aa f110 (ag rfl (aa f111 a)))));by_cases hA:(bq s (oA o)).2.1=0
 case neg =>
  rw[if_pos hA];have aiT:bq s (oA o)=(zC,(13,())):=by
   unfold bq at hA ⊢
   cases hv:aQ s.1 (oA o).1 with
   |none=>rfl
   |some v=>rw[hv]at hA;exact absurd rfl hA
  refine⟨13,(s.1.1,(E,(s.2,()))),go _ _ ?_,rfl⟩;refine ao xC ?_;refine af rfl (af rfl (aa (a:=oA o) rfl (aa (f112 (oA o)) ?_)));rw[aiT];exact af rfl rfl
 rw[if_neg (fun k=>k hA)];obtain⟨va,ca⟩:=qi hA;obtain⟨cA,hcA⟩:∃c:ni,c=(bq s (oA o)).1:=⟨_,rfl⟩;have eA:bq s (oA o)=(cA,(0,())):=by
  rw[hcA];have:(bq s (oA o)).2=(0,()):=by have h1:(bq s (oA o)).2=((bq s (oA o)).2.1,()):=rfl;rw[h1,hA]
  rw[←this]
 have cAv:(bg s.1.1 cA.1).isSome=true:=by rw[hcA,ca];exact va
 obtain⟨v1,ti⟩:=adf.1 cAv;have Y3:=gQ ti;obtain⟨d1,O0⟩:∃d1:aj,d1=bV (s.1.1,E) cA x:=⟨_,rfl⟩;have aiV:s.1.1.set (bJ s.1.1 cA.1) (v1.1,(mw v1.2.1 cA.2 x,v1.2.2))=d1.1:=by rw[O0];exact M1 h.d.sv ti x
 have XD:cc d1.1:=by rw[O0];exact h.d.sv.re _ _
 have hl1:=(aaW.1 (dp h.d.sv ti)).1;have XE:∀v∈d1.1,v.2.1.length≤50000000:=fun v hv=>by
  rw[O0]at hv;obtain⟨w,hw,rfl⟩:=adD.1 (show v∈s.1.1.map (sH cA.1 (mw (aW (s.1.1,E) cA.1) cA.2 x)) from hv);have h1:=h.d.qj w hw;unfold sH
  split
  ·have h2:=zj (aW (s.1.1,E) cA.1) cA.2 x;have h3:(aW (s.1.1,E) cA.1).length≤80:=by rw[←kM ti,iX (d:=(s.1.1,E)) h.d.sv Y3];exact h.d.qj v1 Y3
   show(mw (aW (s.1.1,E) cA.1) cA.2 x).length≤50000000;omega
  ·omega
 have d1l:d1.1.length=s.1.1.length:=by rw[O0];exact fH _ _ _
 have XF:∀(e:Int) (w:ba),LX G 154 oD Tryz.f154 mn (aO Tryz.prog 154 0) (((2:Int),((1:Int),())),(((d1.1,(E,(s.2,()))),((s,()),((x,()),()))),([x,y],([oA o,oB o],()))))=some ((e,()),(w,()))→FX G 154 oD ((o,()),(aP s,()))=some ((e,()),(w,())):=fun e w a=>by
  refine go _ _ ?_;refine ao xC ?_;refine af rfl (af rfl (aa (a:=oA o) rfl (aa (f112 (oA o)) ?_)));rw[eA];refine ag rfl (ag rfl ?_);refine aa (qx hG (s.1.1,(E,(s.2,()))) cA.1 h.d.sv VP.n) ?_;refine af (c9 (fj _) (aY hl1)) (aa (dp h.d.sv ti) ?_);refine af rfl (aa (a:=x) rfl ?_);refine aa (SX hG v1.2.1 cA.2 x (VP.r v1 Y3)) ?_;refine aa (dp h.d.sv ti) ?_;have key:∀a1:List ah,a1=d1.1→LX G 154 oD Tryz.f154 mn (aO Tryz.prog 154 0) (((2:Int),((1:Int),())),(((a1,(E,(s.2,()))),((s,()),((x,()),()))),([x,y],([oA o,oB o],()))))=some ((e,()),(w,())):=fun a1 E7=>by subst E7;exact a
  exact key _ aiV
 by_cases hB:(bq s (oB o)).2.1=0
 case neg =>
  rw[if_pos hB];have aiW:bq s (oB o)=(zC,(13,())):=by
   unfold bq at hB ⊢
   cases hv:aQ s.1 (oB o).1 with
   |none=>rfl
   |some v=>rw[hv]at hB;exact absurd rfl hB
  refine⟨13,(d1.1,(E,(s.2,()))),XF _ _ ?_,rfl⟩;refine ao xC ?_;refine af rfl (af rfl (aa (a:=oB o) rfl (aa (f112 (oB o)) ?_)));rw[aiW];exact af rfl rfl
 rw[if_neg (fun k=>k hB)];obtain⟨vb,cb⟩:=qi hB;obtain⟨cB,hcB⟩:∃c:ni,c=if(aQ s.1 (oB o).1).isSome=true∧(oB o).2=(aH o,0) then oB o else(bq s (oB o)).1:=⟨_,rfl⟩
 have eB:bq s (oB o)=((bq s (oB o)).1,(0,())):=by
  have:(bq s (oB o)).2=(0,()):=by have h1:(bq s (oB o)).2=((bq s (oB o)).2.1,()):=rfl;rw[h1,hB]
  rw[←this]
 have cB1:cB.1=(oB o).1:=by rw[hcB];split;rfl;exact cb
 have cBv:(bg d1.1 cB.1).isSome=true:=by rw[O0];exact wh _ (by rw[cB1];exact vb)
 obtain⟨v2,yw⟩:=adf.1 cBv;have adp:=gQ yw;have wF:=(aaW.1 (dp XD yw)).1;obtain⟨d2,UW⟩:∃d2:aj,d2=bV d1 cB y:=⟨_,rfl⟩;have VT:d1.1.set (bJ d1.1 cB.1) (v2.1,(mw v2.2.1 cB.2 y,v2.2.2))=d2.1:=by rw[UW];exact M1 (e:=d1.2) XD yw y
 have XG:gF s o=d2:=by rw[UW,O0,hcA,hcB,hx,hy,hE];rfl
 have hE2:d2.2=E:=by rw[UW,O0];rfl
 have hwf:Wf d2:=by
  rw[←XG];unfold gF;have hn0:aX s.1.2 (aH o)=none:=by simpa using hf
  refine h.d.link bR hn0 h40 (by rw[ca];exact va) ?_;rw[←hcB,cB1];exact vb
 have last:∀(e:Int) (w:ba),LX G 154 oD Tryz.f154 mn (aO Tryz.prog 154 0) (((2:Int),((2:Int),())),(((d2.1,(E,(s.2,()))),((s,()),((x,()),()))),([x,y],([oA o,oB o],()))))=some ((e,()),(w,()))→FX G 154 oD ((o,()),(aP s,()))=some ((e,()),(w,())):=fun e w a=>by
  refine XF _ _ ?_;refine ao xC ?_;refine af rfl (af rfl (aa (a:=oB o) rfl (aa (f112 (oB o)) ?_)));rw[eB];have key:∀a2:List ah,a2=d2.1→LX G 154 oD Tryz.f154 mn (aO Tryz.prog 154 0) (((2:Int),((2:Int),())),(((a2,(E,(s.2,()))),((s,()),((x,()),()))),([x,y],([oA o,oB o],()))))=some ((e,()),(w,())):=fun a2 DZ=>by subst DZ;exact a
  refine ag rfl (af rfl ?_);have qz:=jF (oB o).2 x;by_cases ZR:(oB o).2=x
  ·have ecB:cB=oB o:=by rw[hcB];exact if_pos ⟨vb,ZR.trans hx⟩
   refine af (qz.trans (decide_eq_true ZR)) ?_;rw[ecB]at yw wF VT;refine aa (qx hG (d1.1,(E,(s.2,()))) (oB o).1 XD (by show d1.1.length≤_;omega)) ?_;refine af (c9 (fj _) (aY wF)) (aa (dp XD yw) ?_);refine af rfl (aa (a:=y) rfl ?_);refine aa (SX hG v2.2.1 (oB o).2 y (XE v2 adp)) ?_;refine aa (dp XD yw) ?_;exact key _ VT
  ·have ecB:cB=(bq s (oB o)).1:=by rw[hcB];exact if_neg (fun k=>ZR (k.2.trans hx.symm))
   refine ag (qz.trans (decide_eq_false ZR)) ?_;rw[ecB]at yw wF VT;refine aa (qx hG (d1.1,(E,(s.2,()))) (bq s (oB o)).1.1 XD (by show d1.1.length≤_;omega)) ?_;refine af (c9 (fj _) (aY wF)) (aa (dp XD yw) ?_);refine af rfl (aa (a:=y) rfl ?_);refine aa (SX hG v2.2.1 (bq s (oB o)).1.2 y (XE v2 adp)) ?_;refine aa (dp XD yw) ?_;exact key _ VT
 have f114:=hp d2 hwf;rw[XG];have e2:(d2.1,E)=d2:=by rw[←hE2]
 by_cases hg:fX d2=0
 ·rw[if_neg (fun k=>k hg)];refine⟨0,(d2.1,(E,(s.2,()))),last _ _ ?_,?_⟩
  ·refine ao xC ?_;refine ag rfl ?_;have key:∀q:aj,q=d2→((FX G 172 BO ((q,()),())).bind fun(IJ:((Bool×Unit)×Unit))=>cond (not IJ.1.1) (some (((15:Int),()),((d2.1,(E,(s.2,()))),()))) (some (((0:Int),()),((d2.1,(E,(s.2,()))),()))))=some (((0:Int),()),((d2.1,(E,(s.2,()))),())):=fun q hq=>by subst hq;exact aa f114 (aV (decide_eq_true hg) rfl)
   exact key _ e2
  ·show(Av (d2.1,(E,(s.2,()))),((0:Int),()))=((d2,s.2),(0,()));show(((d2.1,E),s.2),((0:Int),()))=((d2,s.2),(0,()));rw[e2]
 ·rw[if_pos hg];refine⟨15,(d2.1,(E,(s.2,()))),last _ _ ?_,rfl⟩;refine ao xC ?_;refine ag rfl ?_;have key:∀q:aj,q=d2→((FX G 172 BO ((q,()),())).bind fun(IJ:((Bool×Unit)×Unit))=>cond (not IJ.1.1) (some (((15:Int),()),((d2.1,(E,(s.2,()))),()))) (some (((0:Int),()),((d2.1,(E,(s.2,()))),()))))=some (((15:Int),()),((d2.1,(E,(s.2,()))),())):=fun q hq=>by subst hq;exact aa f114 (aV (decide_eq_false hg) rfl)
  exact key _ e2
theorem adq(hG:HG G)(row:List ae)(d:ae)(hl:row.length≤100000000):FX G 261 IB ((row,d,()),())=some (wH (cE row d 1),()):=by
 refine az (hG _ _ rfl) abX ?_;have key:FX G 167 BV ((row,(d,((1:Int),()))),())=some (wH (cE row d 1),()):=by
  refine az (hG _ _ rfl) Xf ?_;refine aa (CJ (hG _ _ rfl) row d (by omega)) ?_;unfold cE;by_cases hd:d∈row
  ·rw[if_pos hd];obtain⟨k,h1,h2,h3⟩:=fL hd;have aF:=(aaW.1 h2).1;refine ag (decide_eq_false (show ¬idx d row 0<0 by omega)) ?_;refine ag (Gq hd) ?_;have Vi:IntKind.wrap .i64 (idx d row 0+1)=((k+1:Nat):Int):=by rw[h1,wrap_small (by omega) (by omega)];rfl
   have xJ:(k+1)%row.length<row.length:=aeW _ (by omega);have hx:=aaV xJ;refine aa (show aT row (Int.tmod (IntKind.wrap .i64 (idx d row 0+1)) ((row.length:Nat):Int))=some row[(k+1)%row.length] by rw[Vi,rB];exact aA hx) ?_;rw[h1,Int.toNat_natCast,hx];rfl
  ·rw[if_neg hd];exact af (decide_eq_true (eV.2 hd)) rfl
 refine aa key ?_;rfl
def Jx(x:ae):List ah→Option ae
 |[]=>none
 |v::r=>if x∈v.2.1 then cE v.2.1 x 1 else Jx x r
theorem M3{l:List ah}(h:Rw l){v:ah}{x:ae}(hv:v∈l)(hx:x∈v.2.1):∀r,(∀u∈r,u∈l)→v∈r→Jx x r=cE v.2.1 x 1
 |[],_,k=>by cases k
 |u::r,hs,k=>by
  rw[Jx];by_cases hu:x∈u.2.1
  ·rw[if_pos hu,h.one hv (hs u List.mem_cons_self) hx hu]
  ·rw[if_neg hu];rcases aa1.1 k with e|k
   ·rw[e]at hx;exact absurd hx hu
   ·exact M3 h hv hx r (fun w hw=>hs w (aaY _ hw)) k
theorem E8{x:ae}:∀{l:List ah},x∉ax l→Jx x l=none
 |[],_=>rfl
 |v::r,h=>by rw[iL,List.mem_append]at h;rw[Jx,if_neg (fun k=>h (.inl k))];exact E8 fun k=>h (.inr k)
theorem LB{d:aj}(h:Rw d.1)(x:ae):Jx x d.1=oM d x:=by
 by_cases hx:x∈ax d.1
 ·obtain⟨v,hv,jG⟩:=bh.1 hx;rw[CY h hv jG];exact M3 h hv jG d.1 (fun _ k=>k) hv
 ·rw[E8 hx];unfold oM bP;rw[I7 hx]
theorem adr(hG:HG G)(d:aj)(x:ae)(hs:Sm d)(h:Rw d.1):FX G 258 y0 ((d,x,()),())=some (wH (oM d x),()):=by
 have hv:=hs.v;rw[←LB h x];refine az (hG _ _ rfl) abU ?_;have loop:∀(n i:Nat),i+n=d.1.length→LX G 258 y0 Tryz.f258 vM (aO Tryz.prog 258 0) ((d.1,(((d.1.length:Nat):Int),((i:Int),()))),(((x,()),((zD,()),())),()))=some (wH (Jx x (d.1.drop i)),()):=by
  intro n
  induction n with
  |zero =>intro i hi;refine ao My ?_;refine ag (decide_eq_false (show ¬((i:Int)<((d.1.length:Nat):Int)) by omega)) ?_;rw[List.drop_eq_nil_of_le (by omega)];rfl
  |succ n ih =>
   intro i hi;have aF:i<d.1.length:=by omega
   refine ao My ?_;refine af (aY aF) (aa (aA (aaV aF)) ?_);refine aa (adq hG d.1[i].2.1 x (by have:=hs.r _ (adg aF);omega)) ?_;rw[List.drop_eq_getElem_cons aF,Jx];by_cases he:x∈d.1[i].2.1
   ·rw[if_pos he];unfold cE;rw[if_pos he];obtain⟨k,h1,h2,h3⟩:=fL he;have hl:=(aaW.1 h2).1;have hm:((idx x d.1[i].2.1 0).toNat+1)%d.1[i].2.1.length<d.1[i].2.1.length:=aeW _ (by omega);rw[List.getElem?_eq_getElem hm];exact af rfl rfl
   ·rw[if_neg he];unfold cE;rw[if_neg he];refine ag rfl ?_;have:=ih (i+1) (by omega);rw[←aD aF (by omega)]at this;exact this
 have:=loop d.1.length 0 (by omega);rw[List.drop_zero]at this;exact this
theorem at_mem{d:aj}{x:ae}(h:(bP d x).isSome=true):x∈ax d.1:=by
 apply Classical.byContradiction;intro k;unfold bP at h;rw[I7 k]at h
 cases h
theorem ads(hG:HG G)(d:aj)(x:ae)(h:Wf d):FX G 255 EA ((d,x,()),())=some (wH (IY d x),()):=by
 have hs:=h.sm;refine az (hG _ _ rfl) abS ?_;refine aa (Ty hG d x hs) ?_;have h1:(fR zI (bP d x)).2.1=(bP d x).isSome:=gO _ _;unfold IY
 cases ha:(bP d x).isSome
 ·rw[if_neg (by simp)];exact aV (h1.trans ha) rfl
 ·rw[if_pos rfl];refine aV (h1.trans ha) ?_;refine aa (Jd (hG _ _ rfl) x (h.side (at_mem ha))) ?_;exact aa (adr hG d (au x) hs h.rw) rfl
theorem adt(hG:HG G)(d:aj)(hs:Sm d):FX G 249 vA ((d,()),())=some ((eW d.2,()),()):=by
 have he:=hs.e;refine az (hG _ _ rfl) abR ?_;have loop:∀(n i:Nat) (out:List ae),i+n=d.2.length→out.length=2*i→LX G 249 vA Tryz.f249 vJ (aO Tryz.prog 249 0) ((d.2,(((d.2.length:Nat):Int),((i:Int),()))),((),(out,())))=some ((out++eW (d.2.drop i),()),()):=by
  intro n
  induction n with
  |zero =>intro i out hi ho;refine ao Mt ?_;refine ag (decide_eq_false (show ¬((i:Int)<((d.2.length:Nat):Int)) by omega)) ?_;rw[List.drop_eq_nil_of_le (by omega)];show some ((out,()),())=some ((out++[],()),());rw[List.append_nil]
  |succ n ih =>
   intro i out hi ho;have aF:i<d.2.length:=by omega
   refine ao Mt ?_;refine af (aY aF) (aa (aA (aaV aF)) ?_);refine aa (Jd (hG _ _ rfl) (d.2[i].1,0) (.inl rfl)) ?_;refine af (fits (by show out.length+2≤_;omega)) ?_;have:=ih (i+1) (out++[(d.2[i].1,0),(d.2[i].1,1)]) (by omega) (by simp[ho];omega);rw[List.drop_eq_getElem_cons aF];rw[←aD aF (by omega),List.append_assoc]at this;exact this
 exact loop d.2.length 0 [] (by omega) rfl
theorem TA(hG:HG G)(l:List ah)(hl:l.length≤50000000):FX G 240238 kD ((l,()),())=some ((((al l:Nat):Int),()),()):=by
 refine az (hG _ _ rfl) Si ?_;have loop:∀(n i m:Nat),i+n=l.length→m≤i→LX G 240238 kD Tryz.f238 jY (aO Tryz.prog 238 0) (((m:Int),(l,(((l.length:Nat):Int),((i:Int),())))),((),()))=some ((((m+al (l.drop i):Nat):Int),()),()):=by
  intro n
  induction n with
  |zero =>intro i m hi hm;refine ao Cu ?_;refine ag (decide_eq_false (show ¬((i:Int)<((l.length:Nat):Int)) by omega)) ?_;rw[List.drop_eq_nil_of_le (by omega)];rfl
  |succ n ih =>
   intro i m hi hm;have aF:i<l.length:=by omega
   have aiY:FX G 239 Iz ((l[i],()),())=some ((l[i].2.1.isEmpty,()),()):=by
    refine az (hG _ _ rfl) abQ ?_;have:(((l[i].2.1.length:Nat):Int)==0)=l[i].2.1.isEmpty:=by cases l[i].2.1<;>simp;omega
    exact congrArg (fun b:Bool=>some ((b,()),())) this
   refine ao Cu ?_;refine af (aY aF) (aa (aA (aaV aF)) ?_);refine aa aiY ?_;rw[List.drop_eq_getElem_cons aF];unfold al;rw[List.countP_cons]
   cases hb:l[i].2.1.isEmpty
   ·refine ag rfl ?_;have:=ih (i+1) m (by omega) (by omega);rw[←aD aF (by omega)]at this;exact this
   ·refine af rfl ?_;have:=ih (i+1) (m+1) (by omega) (by omega);rw[←aD aF (by omega),←aD (i:=m) (n:=l.length) (by omega) (by omega)]at this;refine this.trans ?_;refine congrArg (fun q:Nat=>some ((((q:Nat):Int),()),())) ?_;unfold al;simp;omega
 have:=loop l.length 0 0 (by omega) (by omega);rw[List.drop_zero,Nat.zero_add]at this;exact this
def Fo(g:List Nat):Prop:=∀(i x:Nat),g[i]? = some x→x≤i
def root(g:List Nat)(i:Nat):Nat :=match g[i]? with
 |some x=>if h:x<i then root g x else i
 |none=>i
termination_by i
theorem dK{g:List Nat}{i x:Nat}(h:g[i]? = some x):root g i=if x<i then root g x else i:=by rw[root,h];simp
theorem lH{g:List Nat}{i:Nat}(h:g[i]? = none):root g i=i:=by rw[root,h]
theorem M4(g:List Nat):∀i,root g i≤i:=by
 intro i
 induction i using Nat.strongRecOn with
 |_ i ih =>
  cases h:g[i]? with
  |none=>rw[lH h];exact ada _
  |some x =>
   rw[dK h]
   split
   ·rename_i hx;have:=ih x hx;omega
   ·exact ada _
theorem Jy{g:List Nat}(hf:Fo g):∀i,i<g.length→g[root g i]? = some (root g i):=by
 intro i
 induction i using Nat.strongRecOn with
 |_ i ih =>
  intro hi;have h:=aaV hi;rw[dK h]
  split
  ·rename_i hx;exact ih _ hx (by omega)
  ·have:=hf i _ h;rw[h];congr 1;omega
theorem lJ{g:List Nat}{i:Nat}(h:g[i]? = some i):root g i=i:=by rw[dK h,if_neg (by omega)]
theorem Fo.set{g:List Nat}(hf:Fo g){i y:Nat}(h:y≤i):Fo (g.set i y):=fun j x hj=>by
 rw[List.getElem?_set]at hj
 split at hj
 ·rename_i e;subst e
  split at hj
  ·cases hj;exact h
  ·cases hj
 ·exact hf j x hj
theorem LC{g:List Nat}(hf:Fo g){i x y:Nat}(hi:g[i]? = some x)(hx:g[x]? = some y)(aF:x<i):∀j,root (g.set i y) j=root g j:=by
 have hyx:=hf x y hx;have ng:=(aaW.1 hi).1;intro j
 induction j using Nat.strongRecOn with
 |_ j ih =>
  by_cases e:j=i
  ·subst e;have h1:(g.set j y)[j]? = some y:=by rw[List.getElem?_set];simp[ng]
   rw[dK h1,if_pos (by omega),ih y (by omega),dK hi,if_pos aF,dK hx]
   split
   ·rfl
   ·have:y=x:=by omega
    subst this;exact lJ hx
  ·have h1:(g.set i y)[j]? = g[j]? := by rw[List.getElem?_set,if_neg (fun k=>e k.symm)]
   cases h:g[j]? with
   |none=>rw[lH h,lH (h1.trans h)]
   |some z =>
    rw[dK h,dK (h1.trans h)]
    split
    ·rename_i hz;exact ih z hz
    ·rfl
theorem Ph{g:List Nat}{a b:Nat}(ha:g[a]? = some a)(hb:g[b]? = some b):∀j,root (g.set (max a b) (min a b)) j=if root g j=max a b then min a b else root g j:=by
 have hm:g[max a b]? = some (max a b):=by rcases Nat.le_total a b with h|h<;>simp[Nat.max_eq_right,Nat.max_eq_left,h,ha,hb]
 have hn:g[min a b]? = some (min a b):=by rcases Nat.le_total a b with h|h<;>simp[Nat.min_eq_right,Nat.min_eq_left,h,ha,hb]
 have hml:=(aaW.1 hm).1;have hle:min a b≤max a b:=by omega
 generalize max a b=M at *;generalize min a b=m at *;have aF:∀j,(g.set M m)[j]? = if j=M then some m else g[j]? := fun j=>by
  rw[List.getElem?_set];by_cases e:M=j
  ·subst e;simp[hml]
  ·rw[if_neg e,if_neg (fun k=>e k.symm)]
 intro j
 induction j using Nat.strongRecOn with
 |_ j ih =>
  by_cases ej:j=M
  ·subst ej;have h1:(g.set j m)[j]? = some m:=by rw[aF,if_pos rfl]
   rw[dK h1,lJ hm,if_pos rfl];by_cases e:m<j
   ·rw[if_pos e,ih m e,lJ hn,if_neg (by omega)]
   ·rw[if_neg e];omega
  ·have h1:(g.set M m)[j]? = g[j]? := by rw[aF,if_neg ej]
   cases h:g[j]? with
   |none=>rw[lH h,lH (h1.trans h),if_neg ej]
   |some z =>
    rw[dK h,dK (h1.trans h)];by_cases hz:z<j
    ·rw[if_pos hz,if_pos hz];exact ih z hz
    ·rw[if_neg hz,if_neg hz,if_neg ej]
def fI(g:List Nat):List Int:=g.map fun n=>((n:Nat):Int)
theorem C6(g:List Nat):(fI g).length=g.length:=by simp[fI]
theorem uI{g:List Nat}{i x:Nat}(h:g[i]? = some x):(fI g)[Int.toNat (i:Int)]? = some (x:Int):=by simp[fI,h]
theorem TB(g:List Nat)(i x:Nat):(fI g).set (Int.toNat (i:Int)) (x:Int)=fI (g.set i x):=by simp[fI,List.map_set]
theorem C7{g:List Nat}{i:Nat}(h:i<g.length):(decide ((0:Int)≤(i:Int))&&decide ((i:Int)<(((fI g).length:Nat):Int)))=true:=by rw[C6];exact c9 (fj i) (aY h)
structure E9(g g':List Nat):Prop where
 f:Fo g'
 n:g'.length=g.length
 r:∀j,root g' j=root g j
theorem E9.trans{a b c:List Nat}(h:E9 a b)(k:E9 b c):E9 a c:=⟨k.f,k.n.trans h.n,fun j=>(k.r j).trans (h.r j)⟩
theorem TC(hG:HG G)(g:List Nat)(i:Nat)(hf:Fo g)(hi:i<g.length):∃g',E9 g g'∧FX G 260 rq (((i:Int),()),(fI g,()))=some ((((root g i:Nat):Int),()),(fI g',())):=by
 have loop:∀(i:Nat) (g:List Nat),Fo g→i<g.length→∃g',E9 g g'∧LX G 260 rq Tryz.f260 sD (aO Tryz.prog 260 0) (((i:Int),()),((),(fI g,())))=some ((((root g i:Nat):Int),()),(fI g',())):=by
  intro i
  induction i using Nat.strongRecOn with
  |_ i ih =>
   intro g hf hi;have h:=aaV hi;generalize g[i]=x at h;have hxi:=hf i x h;by_cases hx:x<i
   ·have h2:=aaV (show x<g.length by omega);generalize g[x]=y at h2;have hyx:=hf x y h2;have hs:=LC hf h h2 hx;have hf2:Fo (g.set i y):=hf.set (by omega);obtain⟨g',h3,h4⟩:=ih y (by omega) (g.set i y) hf2 (by rw[List.length_set];omega);refine⟨g',⟨h3.f,by rw[h3.n,List.length_set],fun j=>(h3.r j).trans (hs j)⟩,?_⟩;refine ao Mz ?_;refine af (C7 hi) (aa (uI h) ?_);refine af (show(((x:Nat):Int) != (i:Int))=true by rw[bne_iff_ne];omega) ?_;refine af (C7 hi) (aa (uI h) ?_);refine af (C7 (show x<g.length by omega)) (aa (uI h2) ?_);refine af (C7 hi) (aa (uI h) ?_);have aiZ:=TB g i y;have key:∀f:List Int,f=fI (g.set i y)→cond ((decide ((0:Int)≤(i:Int)))&&(decide ((i:Int)<(((List.length f):Nat):Int)))) (((f)[(Int.toNat (i:Int))]?).bind fun(y5:Int)=>LX G 260 rq Tryz.f260 sD (aO Tryz.prog 260 0) ((y5,()),((),(f,())))) none=some ((((root g i:Nat):Int),()),(fI g',())):=fun f hf=>by
     subst hf;refine af (C7 (by rw[List.length_set];exact hi)) (aa (uI (x:=y) (by rw[List.getElem?_set];simp[hi])) ?_);rw[h4,hs y,dK h,if_pos hx,dK h2];by_cases hy:y<x
     ·rw[if_pos hy]
     ·have:y=x:=by omega
      subst this;rw[if_neg (by omega),lJ h2]
    exact key _ aiZ
   ·have:x=i:=by omega
    subst this;refine⟨g,⟨hf,rfl,fun _=>rfl⟩,?_⟩;refine ao Mz ?_;refine af (C7 hi) (aa (uI h) ?_);rw[lJ h];exact ag (by simp) rfl
 obtain⟨g',h1,h2⟩:=loop i g hf hi;exact⟨g',h1,az (hG _ _ rfl) abW h2⟩
def C8(a b r:Nat):Nat:=if r=max a b then min a b else r
theorem adu(hG:HG G)(g:List Nat)(i k:Nat)(hf:Fo g)(hi:i<g.length)(hk:k<g.length):∃g',Fo g'∧g'.length=g.length∧(∀j,root g' j=C8 (root g i) (root g k) (root g j))∧FX G 259 IA (((i:Int),((k:Int),())),(fI g,()))=some ((),(fI g',())):=by
 obtain⟨g1,h1,e1⟩:=TC hG g i hf hi;obtain⟨g2,h2,e2⟩:=TC hG g1 k h1.f (by rw[h1.n];exact hk);rw[h1.r k]at e2;have hs:=h1.trans h2;have ra:g2[root g i]? = some (root g i):=by have:=Jy hs.f i (by rw[hs.n];exact hi);rw[hs.r i]at this;exact this
 have rb:g2[root g k]? = some (root g k):=by have:=Jy hs.f k (by rw[hs.n];exact hk);rw[hs.r k]at this;exact this
 have hal:=(aaW.1 ra).1;have hbl:=(aaW.1 rb).1;have hm:max (root g i) (root g k)<g2.length:=by omega
 refine⟨g2.set (max (root g i) (root g k)) (min (root g i) (root g k)),hs.f.set (by omega),by rw[List.length_set,hs.n],fun j=>by rw[Ph ra rb j,hs.r j];rfl,?_⟩;refine az (hG _ _ rfl) abV ?_;refine aa e1 (aa e2 ?_);have em:(max ((root g i:Nat):Int) ((root g k:Nat):Int):Int)=((max (root g i) (root g k):Nat):Int):=by omega
 have en:(min ((root g i:Nat):Int) ((root g k:Nat):Int):Int)=((min (root g i) (root g k):Nat):Int):=by omega
 have key:∀m n:Int,m=((max (root g i) (root g k):Nat):Int)→n=((min (root g i) (root g k):Nat):Int)→cond ((decide ((0:Int)≤m))&&(decide (m<(((List.length (fI g2)):Nat):Int)))) (((fI g2)[(Int.toNat m)]?).bind fun(y3:Int)=>(some ((),((List.set (fI g2) (Int.toNat m) n),())):Option (Unit×((List Int)×Unit)))) none=some ((),(fI (g2.set (max (root g i) (root g k)) (min (root g i) (root g k))),())):=fun m n US Kj=>by subst US Kj;refine af (C7 hm) (aa (uI (aaV hm)) ?_);rw[TB]
 exact key _ _ em en
theorem LD{α:Type}(x:ae)(es:List (ae×α)):tM br x es=es.findIdx? fun e=>decide (e.1=x):=by
 show List.findIdx? (fun e:ae×α=>((x.1.1==e.1.1.1)&&(x.1.2==e.1.1.2))&&(x.2==e.1.2)) es=_;congr 1;funext e;rw[jF x e.1];by_cases h:x=e.1
 ·rw[decide_eq_true h,decide_eq_true h.symm]
 ·rw[decide_eq_false h,decide_eq_false (fun k=>h k.symm)]
def fO{β α:Type}[DecidableEq β](x:β):List (β×α)→Option α
 |[]=>none
 |e::r=>if e.1=x then some e.2 else fO x r
theorem LF{β α:Type}[DecidableEq β](x:β):∀es:List (β×α),((es.findIdx? fun e=>decide (e.1=x)).bind fun i=>(es[i]?).map (·.2))=fO x es
 |[]=>rfl
 |e::r=>by
  have ih:=LF x r;rw[List.findIdx?_cons,fO];by_cases h:e.1=x
  ·rw[if_pos (decide_eq_true h),if_pos h];rfl
  ·rw[if_neg (by simpa using h),if_neg h,←ih]
   cases r.findIdx? fun e=>decide (e.1=x)<;>simp
theorem TD{α:Type}(x:ae)(es:List (ae×α)):jk br x es=fO x es:=by have:=LF x es;rw[←LD]at this;exact this
theorem TE{α:Type}{x:ae}(v:α){es:List (ae×α)}(h:x∉es.map (·.1)):mK br x v es=es++[(x,v)]:=by
 have e:tM br x es=none:=by rw[LD,List.findIdx?_eq_none_iff];intro q hq;exact decide_eq_false fun k=>h (adD.2 ⟨q,hq,k⟩)
 unfold mK
 split
 ·rename_i i k;rw[e]at k;cases k
 ·rfl
theorem Jz{β α:Type}[DecidableEq β]{x:β}{v:α}:∀{es:List (β×α)},(es.map (·.1)).Nodup→(x,v)∈es→fO x es=some v
 |[],_,h=>by cases h
 |e::r,hn,h=>by
  simp only[List.map_cons,List.nodup_cons]at hn;rw[fO];rcases aa1.1 h with e1|h
  ·subst e1;rw[if_pos rfl]
  ·rw[if_neg (fun k=>hn.1 (by rw[k];exact List.mem_map.2 ⟨_,h,rfl⟩))];exact Jz hn.2 h
def ir:List ah→Nat→List (ae×Int)
 |[],_=>[]
 |v::r,i=>v.2.1.map (fun x=>(x,(i:Int)))++ir r (i+1)
theorem xZ:∀(l:List ah) (i:Nat),(ir l i).map (·.1)=ax l
 |[],_=>rfl
 |v::r,i=>by
  have e:(v.2.1.map fun x=>(x,(i:Int))).map (·.1)=v.2.1:=by rw[List.map_map];exact List.map_id _
  rw[ir,iL,List.map_append,xZ r,e]
theorem JA:∀(a b:List ah) (i:Nat),ir (a++b) i=ir a i++ir b (i+a.length)
 |[],b,i=>rfl
 |v::r,b,i=>by rw[List.cons_append,ir,ir,JA r b,List.append_assoc];congr 3;simp;omega
theorem JB{x:ae}{a:Int}:∀{l:List ah} {i:Nat},(x,a)∈ir l i→∃k v,l[k]? = some v∧a=((i+k:Nat):Int)∧x∈v.2.1
 |[],i,h=>by cases h
 |v::r,i,h=>by
  rw[ir]at h;rcases acw.1 h with h|h
  ·obtain⟨y,hy,e⟩:=adD.1 h
   cases e
   exact⟨0,v,rfl,rfl,hy⟩
  ·obtain⟨k,u,h1,h2,h3⟩:=JB h;exact⟨k+1,u,by simpa using h1,by rw[h2];congr 1;omega,h3⟩
theorem M5{x:ae}:∀{l:List ah} {i k:Nat} {v:ah},l[k]? = some v→x∈v.2.1→(x,((i+k:Nat):Int))∈ir l i
 |v::r,i,0,u,h,hx=>by simp at h;subst h;rw[ir];exact aa2 _ (adD.2 ⟨x,hx,rfl⟩)
 |v::r,i,k+1,u,h,hx=>by
  rw[ir];refine aco _ ?_;have:=M5 (i:=i+1) (k:=k) (by simpa using h) hx
  rwa [show i+1+k=i+(k+1) by omega]at this
theorem TF(i:Nat):fI (List.range i)++[(i:Int)]=fI (List.range (i+1)):=by rw[List.range_succ];simp[fI]
section
variable {d:aj} {y:ig.B}
theorem VU(h:Wf d){i:Nat}(hi:i<d.1.length){f:List Int}{nn:Int} (next:LX G 256 ig Tryz.f256 sB (aO Tryz.prog 256 0) ((d.1,(nn,((IntKind.wrap .i64 ((i:Int)+1)),()))),((),(f,(ir (d.1.take (i+1)) 0,()))))=some y):∀(n j:Nat) (es:List (ae×Int)),j+n=d.1[i].2.1.length→es=ir (d.1.take i) 0++(d.1[i].2.1.take j).map (fun x=>(x,(i:Int))) → LX G 256 ig Tryz.f256 vK (aO Tryz.prog 256 1) (((i:Int),(d.1,(nn,((i:Int),(d.1[i].2.1,(((d.1[i].2.1.length:Nat):Int),((j:Int),()))))))),((),(f,(es,()))))=some y:=by
 have hr:=h.qj d.1[i] (adg hi);have et:d.1.take (i+1)=d.1.take i++[d.1[i]]:=(List.take_append_getElem hi).symm;have ev:ir (d.1.take (i+1)) 0=ir (d.1.take i) 0++d.1[i].2.1.map (fun x=>(x,(i:Int))):=by
  rw[et,JA];have:(d.1.take i).length=i:=by rw[List.length_take];omega
  rw[this,Nat.zero_add];congr 1;show d.1[i].2.1.map (fun x=>(x,(i:Int)))++[]=_;rw[List.append_nil]
 have nd:(ax (d.1.take i)++d.1[i].2.1).Nodup:=by
  have h1:=h.rw.n;rw[←List.take_append_drop (i+1) d.1,et,oT,oT]at h1;have e2:ax [d.1[i]]=d.1[i].2.1:=by rw[iL];exact List.append_nil _
  rw[e2]at h1;exact(aeB.1 h1).1
 intro n
 induction n with
 |zero =>intro j es hj he;refine ao Mv ?_;refine ag (decide_eq_false (show ¬((j:Int)<((d.1[i].2.1.length:Nat):Int)) by omega)) ?_;have e:d.1[i].2.1.take j=d.1[i].2.1:=List.take_of_length_le (by omega);rw[e,←ev]at he;subst he;exact next
 |succ n ih =>
  intro j es hj he;have aF:j<d.1[i].2.1.length:=by omega
  refine ao Mv ?_;refine af (aY aF) (aa (aA (aaV aF)) ?_);have DD:d.1[i].2.1[j]∉es.map (·.1):=by
   have e3:((d.1[i].2.1.take j).map fun x=>(x,(i:Int))).map (·.1)=d.1[i].2.1.take j:=by rw[List.map_map];exact List.map_id _
   rw[he,List.map_append,xZ,e3,List.mem_append];rintro(k|k)
   ·exact(aeB.1 nd).2.2 _ k _ (adg aF) rfl
   ·obtain⟨q,hq,he⟩:=aeP k;have hq1:q<j:=by rw[List.length_take]at hq;omega
    rw[List.getElem_take]at he;have:=(List.getElem_inj (aeB.1 nd).2.1).1 he;omega
  have:=ih (j+1) (mK br d.1[i].2.1[j] (i:Int) es) (by omega) (by rw[TE _ DD,he,←List.take_append_getElem aF,List.map_append,List.append_assoc];rfl);rw[←aD aF (by omega)]at this;exact this
theorem VV(h:Wf d) (next:LX G 256 ig Tryz.f256 pW (aO Tryz.prog 256 2) ((ir d.1 0,()),((),(fI (List.range d.1.length),((none,ir d.1 0),()))))=some y):∀(n i:Nat),i+n=d.1.length → LX G 256 ig Tryz.f256 sB (aO Tryz.prog 256 0) ((d.1,(((d.1.length:Nat):Int),((i:Int),()))),((),(fI (List.range i),(ir (d.1.take i) 0,()))))=some y:=by
 have hn:=h.nv;intro n
 induction n with
 |zero =>
  intro i hi;have e:i=d.1.length:=by omega
  subst e;refine ao Mu ?_;refine ag (decide_eq_false (show ¬(((d.1.length:Nat):Int)<((d.1.length:Nat):Int)) by omega)) ?_;rw[List.take_length];exact next
 |succ n ih =>
  intro i hi;have aF:i<d.1.length:=by omega
  refine ao Mu ?_;refine af (aY aF) (aa (aA (aaV aF)) ?_);refine af (fits (by show(fI (List.range i)).length+1≤_;rw[C6];simp;omega)) ?_;have nx:=ih (i+1) (by omega);rw[←aD aF (by omega),←TF]at nx;exact VU (G:=G) h aF nx d.1[i].2.1.length 0 _ (by omega) (by simp)
end
end Go.Vs
namespace Go.Vs
open Go.Proofs
variable {G:(f:FuncId)→(g:aS)→Option (g.A→Option g.B)}
theorem C9(a b:Nat):C8 a b a=min a b∧C8 a b b=min a b:=by unfold C8;constructor<;>split<;>omega
structure FoI(d:aj)(rem:List (ae×Int))(g:List Nat):Prop where
 f:Fo g
 n:g.length=d.1.length
 c:∀i,i<d.1.length→cV d (cP d i) (cP d (root g i))
 p:∀(z:ae) (i k:Nat),(z,(i:Int))∈ir d.1 0→(au z,(k:Int))∈ir d.1 0→(z,(i:Int))∉rem→root g i=root g k
theorem wu{d:aj}(h:Wf d){z:ae}{a:Int}(hm:(z,a)∈ir d.1 0):∃i:Nat,i<d.1.length∧a=(i:Int)∧z∈ax d.1∧bP d z=some (cP d i):=by obtain⟨k,v,h1,h2,h3⟩:=JB hm;rw[Nat.zero_add]at h2;have hv:=ac7 h1;refine⟨k,(aaW.1 h1).1,h2,bh.2 ⟨v,hv,h3⟩,?_⟩;rw[np h1];exact iM h.rw hv h3
theorem LG{d:aj}(h:Wf d){z:ae}(hz:z∈ax d.1):∃i:Nat,(z,(i:Int))∈ir d.1 0:=by obtain⟨v,hv,hx⟩:=bh.1 hz;obtain⟨k,hk⟩:=aeN hv;have:=M5 (i:=0) hk hx;rw[Nat.zero_add]at this;exact⟨k,this⟩
theorem M6{d:aj}(h:Wf d){z:ae}{a:Int}(hm:(z,a)∈ir d.1 0):jk br z (ir d.1 0)=some a:=by rw[TD];refine Jz ?_ hm;rw[xZ];exact h.rw.n
theorem FoI.same{d:aj}(h:Wf d){g:List Nat}(hg:FoI d [] g){a b:ID}(k:cV d a b):∀i j,i<d.1.length→j<d.1.length→cP d i=a→cP d j=b→root g i=root g j:=by
 induction k with
 |refl=>intro i j hi hj h1 h2;rw[jC h.sv hi hj (h1.trans h2.symm)]
 |tail _ s ih =>
  intro i j hi hj h1 h2;obtain⟨z,hz,s1,s2⟩:=s;obtain⟨m,hm⟩:=LG h hz;obtain⟨q,hq⟩:=LG h (h.other hz);obtain⟨m',m1,m2,_,m3⟩:=wu h hm;obtain⟨q',q1,q2,_,q3⟩:=wu h hq;have em:m'=m:=by omega
  have eq:q'=q:=by omega
  subst em;subst eq;rw[s1]at m3;rw[s2]at q3;have r1:=ih i m' hi m1 h1 (acv m3).symm;have r2:=hg.p z m' q' hm hq (by simp);have ej:q'=j:=jC h.sv q1 hj ((acv q3).symm.trans h2.symm);rw[r1,r2,ej]
theorem FoI.can{d:aj}(h:Wf d){g:List Nat}(hg:FoI d [] g):Js d (fI ((List.range d.1.length).map (root g))):=by
 have nI:∀i,i<d.1.length→(fI ((List.range d.1.length).map (root g))).getD i 0=((root g i:Nat):Int):=fun i hi=>by unfold fI;simp[List.getD,hi]
 refine⟨⟨by rw[C6];simp,fun i hi=>⟨root g i,M4 g i,nI i hi,hg.c i hi⟩⟩,fun i hi j hj k=>?_⟩;rw[nI i hi,hg.same h k i j hi hj rfl rfl];have:=M4 g j;omega
theorem VW(hG:HG G){d:aj}(h:Wf d){g:List Nat}:∀(n i:Nat) (g':List Nat),i+n=d.1.length→Fo g'→g'.length=d.1.length→(∀j,root g' j=root g j) → LX G 256 ig Tryz.f256 vL (aO Tryz.prog 256 3) ((((d.1.length:Nat):Int),((i:Int),())),((),(fI g',(fI ((List.range i).map (root g)),()))))=some ((fI ((List.range d.1.length).map (root g)),()),()):=by
 have UG:=h.nv;intro n
 induction n with
 |zero =>
  intro i g' hi h1 h2 h3;have e:i=d.1.length:=by omega
  subst e;refine ao Mx ?_;exact ag (decide_eq_false (show ¬(((d.1.length:Nat):Int)<((d.1.length:Nat):Int)) by omega)) rfl
 |succ n ih =>
  intro i g' hi h1 h2 h3;have aF:i<d.1.length:=by omega
  obtain⟨g2,s,e⟩:=TC hG g' i h1 (by omega);refine ao Mx ?_;refine af (aY aF) (aa e ?_);refine af (fits (by show(fI _).length+1≤_;rw[C6];simp;omega)) ?_;have:=ih (i+1) g2 (by omega) s.f (by rw[s.n,h2]) (fun j=>(s.r j).trans (h3 j));have e2:fI ((List.range (i+1)).map (root g))=fI ((List.range i).map (root g))++[((root g' i:Nat):Int)]:=by rw[List.range_succ,h3 i];simp[fI]
  rw[e2,←aD aF (by omega)]at this;exact this
theorem VX(hG:HG G){d:aj}(h:Wf d):∀(n:Nat) (rem:List (ae×Int)) (g:List Nat) (o:Option (ae×Int)),rem.length=n→(∀e∈rem,e∈ir d.1 0)→FoI d rem g → LX G 256 ig Tryz.f256 pW (aO Tryz.prog 256 2) ((ir d.1 0,()),((),(fI g,((o,rem),()))))=some ((labels d,()),()):=by
 intro n
 induction n with
 |zero =>
  intro rem g o hn hr hg;have e:rem=[]:=adn hn;subst e;refine ao Mw ?_;refine af rfl ?_;have:=VW (G:=G) hG h (g:=g) d.1.length 0 g (by omega) hg.f hg.n (fun _=>rfl);rw[(hg.can h).uniq h (fJ h)]at this;have e2:((fI g).length:Int)=((d.1.length:Nat):Int):=by rw[C6,hg.n]
  rw[←e2]at this;exact this
 |succ n ih =>
  intro rem g o hn hr hg;refine ao Mw ?_;refine ag (show rem.isEmpty=false by cases rem with|nil=>simp at hn|cons _ _=>rfl) ?_;refine nc (show 0<rem.length by omega) fun j hj=>?_;have hj':j<rem.length:=hj;refine aa (aaV hj') ?_;have hm:=hr _ (adg hj');generalize he:rem[j]=e at hm;obtain⟨z,a⟩:=e;obtain⟨i,hi,ha,hz,haz⟩:=wu h hm;subst ha;obtain⟨k,hk⟩:=LG h (h.other hz);obtain⟨k',wG,ek,_,hak⟩:=wu h hk;have ek':k'=k:=by omega
  subst ek';refine aa (Jd (hG _ _ rfl) z (h.side hz)) ?_;have nI:jk br (au z) (ir d.1 0)=some (k':Int):=M6 h hk;refine af (show(jk br (au z) (ir d.1 0)).isSome=true by rw[nI];rfl) ?_;obtain⟨g',h1,h2,h3,h4⟩:=adu hG g i k' hg.f (by rw[hg.n];exact hi) (by rw[hg.n];exact wG);refine aa (a:=((),(fI g',()))) (by
   have:(jk br (au z) (ir d.1 0)).getD (0:Int)=(k':Int):=by rw[nI];rfl
   rw[←this]at h4;exact h4) ?_
  have ai1:Jp d (cP d i) (cP d k'):=⟨z,hz,haz,hak⟩;have cij:cV d (cP d (root g i)) (cP d (root g k')):=((hg.c i hi).symm h).trans (ai1.conn.trans (hg.c k' wG));refine ih (rem.eraseIdx j) g' _ (by rw[List.length_eraseIdx,if_pos hj'];omega) (fun e he=>hr e (List.mem_of_mem_eraseIdx he)) ⟨h1,h2.trans hg.n,fun q hq=>?_,fun y p q hp hq hy=>?_⟩
  ·rw[h3 q];unfold C8
   split
   ·rename_i e;refine(hg.c q hq).trans ?_;rw[e];rcases Nat.le_total (root g i) (root g k') with hle|hle
    ·rw[Nat.max_eq_right hle,Nat.min_eq_left hle];exact cij.symm h
    ·rw[Nat.max_eq_left hle,Nat.min_eq_right hle];exact cij
   ·exact hg.c q hq
  ·rw[h3 p,h3 q];by_cases qB:(y,(p:Int))∈rem
   ·
    have e:(y,(p:Int))=(z,(i:Int)):=by apply Classical.byContradiction;intro ne;apply hy;rw[List.mem_eraseIdx_iff_getElem];obtain⟨t,ht,hte⟩:=aeP qB;refine⟨t,ht,fun k=>?_,hte⟩;subst k;exact ne (hte.symm.trans he)
    have e1:y=z:=congrArg Prod.fst e;have e2:p=i:=by have:=congrArg Prod.snd e;simp at this;omega
    subst e1;subst e2;have h5:=M6 h hq;rw[nI]at h5;have e3:q=k':=by have:=acv h5;omega
    subst e3;rw[(C9 _ _).1,(C9 _ _).2]
   ·rw[hg.p y p q hp hq qB]
theorem LH(n:Nat):∀i,root (List.range n) i=i:=fun i=>by
 cases h:(List.range n)[i]? with
 |none=>exact lH h
 |some x =>
  have:x=i:=by rw[List.getElem?_range (by have:=(List.getElem?_eq_some_iff.1 h).1;simpa using this)]at h;exact(acv h).symm
  subst this;exact lJ h
theorem adw(hG:HG G)(d:aj)(h:Wf d):FX G 256 ig ((d,()),())=some ((labels d,()),()):=by
 refine az (hG _ _ rfl) abT ?_;refine VV (G:=G) h ?_ d.1.length 0 (by omega);refine VX hG h _ (ir d.1 0) (List.range d.1.length) none rfl (fun _ k=>k) ⟨fun i x hx=>?_,by simp,fun i hi=>?_,fun z i k h1 h2 h3=>absurd h1 h3⟩
 ·have:=(aaW.1 hx).1;rw[List.getElem?_range (by simpa using this)]at hx;have:=acv hx;omega
 ·rw[LH];exact .refl _
structure PG(G:(f:FuncId)→(g:aS)→Option (g.A→Option g.B)):Prop where
 h:HG G
 f:∀d,Wf d→FX G 240 yY ((d,()),())=some ((c6 d,()),())
 c:∀d,Wf d→FX G 241 yZ ((d,()),())=some ((fe d,()),())
theorem adx(hp:PG G)(d:aj)(h:Wf d):FX G 226 Ix ((d,()),())=some ((((d.1.length:Nat):Int),(((d.2.length:Nat):Int),(((ft d:Nat):Int),(fe d,())))),()):=by
 have hn:=h.nv;have hf:=wq h;have ha:al d.1≤d.1.length:=aeM;refine az (hp.h _ _ rfl) abM ?_;refine aa (TA hp.h d.1 (by omega)) ?_;refine aa (hp.f d h) (aa (hp.c d h) ?_);have e:IntKind.wrap .i64 ((((c6 d).length:Nat):Int)+((al d.1:Nat):Int))=((ft d:Nat):Int):=by rw[wrap_small (by omega) (by omega)];rfl
 exact congrArg (fun n:Int=>some ((((d.1.length:Nat):Int),(((d.2.length:Nat):Int),(n,(fe d,())))),())) e
theorem ady(hp:PG G)(d:aj)(h:Wf d):FX G 204 Ir ((d,()),())=some ((fX d,()),()):=by
 have hn:=h.nv;have bw:=h.ne;have hf:=wq h;have ha:al d.1≤d.1.length:=aeM;refine az (hp.h _ _ rfl) abB ?_;refine aa (adx hp d h) (ag rfl ?_);have hr:=nq h (fJ h);obtain⟨k,e1,e2⟩:=Tv h hr;have ec:=sR h;have PJ:(kX d (labels d)).length≤d.1.length:=by unfold kX;rw[List.length_map];refine adC (adL _ _) ?_;simp
 have hft:ft d≤80+d.1.length:=by unfold ft;omega
 refine congrArg (fun n:Int=>some ((n,()),())) ?_;show IntKind.wrap .i64 (fe d-IntKind.wrap .i64 (Int.tdiv (IntKind.wrap .i64 ((IntKind.wrap .i64 (((d.1.length:Nat):Int)-((d.2.length:Nat):Int)))+((ft d:Nat):Int))) 2))=fX d;rw[e1,ec];have hk:(k:Int)≤1000:=by omega
 rw[wrap_small (n:=((d.1.length:Nat):Int)-((d.2.length:Nat):Int)) (by omega) (by omega)];rw[wrap_small (n:=((d.1.length:Nat):Int)-((d.2.length:Nat):Int)+((ft d:Nat):Int)) (by omega) (by omega)];have e3:((d.1.length:Nat):Int)-((d.2.length:Nat):Int)+((ft d:Nat):Int)=2*((((kX d (labels d)).length:Nat):Int)-(k:Int)):=by omega
 rw[e3,Int.mul_tdiv_cancel_left _ (by decide)];rw[wrap_small (n:=(((kX d (labels d)).length:Nat):Int)-(k:Int)) (by omega) (by omega)];rw[wrap_small (by omega) (by omega)];omega
theorem VY(hp:PG G):LA G:=fun d h=>by refine az (hp.h _ _ rfl) abj ?_;refine aa (ady hp d h) ?_;refine congrArg (fun b:Bool=>some ((b,()),())) ?_;show(fX d==0)=decide (fX d=0);rw[Bool.eq_iff_iff];simp
end Go.Vs
