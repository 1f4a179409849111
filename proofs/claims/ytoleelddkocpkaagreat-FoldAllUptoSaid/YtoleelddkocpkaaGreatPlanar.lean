/- What the program computes of -/
import Derived.Test.YtoleelddkocpkaaGreatEuler
set_option linter.unusedVariables false
set_option linter.unusedSimpArgs false
namespace Go.Vs
open Go.Proofs
variable {G:(f:FuncId)→(g:aP)→Option (g.A→Option g.B)}
theorem Ny(w:ai)(r:List ai)(x:ID):aT (w::r) x=if w.1=x then some w else aT r x:=by unfold aT;rw[List.find?_cons];by_cases h:w.1=x<;>simp[h]
theorem V9(hG:HG G)(l:List ai)(x:ID)(hl:l.length≤1073741824):FX G 136215 lg ((l,x,()),())=some (qL zV (aT l x),()):=by
 refine av (hG _ _ rfl) UU ?_;have loop:∀(n i:Nat),i+n=l.length→LX G 136215 lg Tryz.f215 mS (aF Tryz.prog 215 0) ((l,(((l.length:Nat):Int),((i:Int),()))),(((x,()),(((0:Int),((0:Int),(([]:List ae),(e0,((0:Int),()))))),())),()))=some (qL zV (aT (l.drop i) x),()):=by
  intro n
  induction n with
  |zero =>intro i hi;refine ar DO ?_;refine ag (decide_eq_false (show ¬((i:Int)<((l.length:Nat):Int)) by omega)) ?_;rw[List.drop_eq_nil_of_le (by omega)];rfl
  |succ n ih =>
   intro i hi;have aH:i<l.length:=by omega
   have amn:FX G 135 Df ((l[i],()),())=some ((l[i].1,()),()):=av (hG _ _ rfl) aah rfl;refine ar DO ?_;refine af (aN aH) (aa (aw (aby aH)) ?_);refine aa amn ?_;rw[List.drop_eq_getElem_cons aH,Ny];by_cases he:l[i].1=x
   ·rw[if_pos he];exact af ((j5 l[i].1 x).trans (decide_eq_true he)) rfl
   ·rw[if_neg he];refine ag ((j5 l[i].1 x).trans (decide_eq_false he)) ?_;have:=ih (i+1) (by omega);rw[←aA aH hl]at this;exact this
 have:=loop l.length 0 (by omega);rw[List.drop_zero]at this;exact this
theorem agl(hG:HG G)(d:an)(x:ID)(hs:Sm d):FX G 192 KH ((d,x,()),())=some (qL zV (br d x),()):=by
 have hv:=hs.v;refine av (hG _ _ rfl) aeD ?_;refine aa (V9 hG d.1 x (by omega)) ?_;unfold br
 cases hf:aT d.1 x with
 |none=>exact aa (abY (hG _ _ rfl) [] (by simp)) rfl
 |some v=>exact aa (abY (hG _ _ rfl) v.2.1 (hs.r v (ed hf))) rfl
theorem Wa(w:ai)(r:List ai)(x:ae):E2 (w::r) x=if x∈w.2.1 then some w.1 else E2 r x:=by unfold E2;rw[List.find?_cons];by_cases h:x∈w.2.1<;>simp[h]
theorem aaF(hG:HG G)(d:an)(x:ae)(hs:Sm d):FX G 216 xf ((d,x,()),())=some (qL zI (cg d x),()):=by
 have hv:=hs.v;refine av (hG _ _ rfl) aeQ ?_;have loop:∀(n i:Nat),i+n=d.1.length→LX G 216 xf Tryz.f216 xt (aF Tryz.prog 216 0) ((d.1,(((d.1.length:Nat):Int),((i:Int),()))),(((x,()),((zI,()),())),()))=some (qL zI (E2 (d.1.drop i) x),()):=by
  intro n
  induction n with
  |zero =>intro i hi;refine ar OM ?_;refine ag (decide_eq_false (show ¬((i:Int)<((d.1.length:Nat):Int)) by omega)) ?_;rw[List.drop_eq_nil_of_le (by omega)];rfl
  |succ n ih =>
   intro i hi;have aH:i<d.1.length:=by omega
   refine ar OM ?_;refine af (aN aH) (aa (aw (aby aH)) ?_);refine aa (G7 hG d.1[i].2.1 x (by have:=hs.r _ (acv aH);omega)) ?_;rw[List.drop_eq_getElem_cons aH,Wa];by_cases he:x∈d.1[i].2.1
   ·rw[if_pos he];exact af (decide_eq_true he) rfl
   ·rw[if_neg he];refine ag (decide_eq_false he) ?_;have:=ih (i+1) (by omega);rw[←aA aH (by omega)]at this;exact this
 have:=loop d.1.length 0 (by omega);rw[List.drop_zero]at this;exact this
def RZ(x:ae):List aB→Int→Int
 |[],_ => -1
 |g::r,i=>if g.1=x then i else RZ x r (i+1)
theorem LL(x:ae):∀(l:List aB) (i:Nat),(RZ x l i = -1∧g8 l x=none)∨∃k g,RZ x l (i:Int)=((i+k:Nat):Int)∧l[k]? = some g∧g8 l x=some g.2
 |[],i=>.inl ⟨rfl,rfl⟩
 |g::r,i=>by
  rw[RZ,qT];by_cases h:g.1=x
  ·rw[if_pos h,if_pos h];exact .inr ⟨0,g,by simp,by simp,rfl⟩
  ·rw[if_neg h,if_neg h];have e:(i:Int)+1=((i+1:Nat):Int):=by omega
   rw[e];rcases LL x r (i+1) with⟨h1,h2⟩|⟨k,q,h1,h2,h3⟩
   ·simp_all
   ·exact .inr ⟨k+1,q,by omega,by simpa using h2,h3⟩
theorem Wb(hG:HG G)(l:List aB)(x:ae)(hl:l.length≤1073741824):FX G 232230 jP ((l,()),((x,()),()))=some ((RZ x l 0,()),((x,()),())):=by
 refine av (hG _ _ rfl) UX ?_;have loop:∀(n i:Nat),i+n=l.length→LX G 232230 jP Tryz.f230 ku (aF Tryz.prog 230 0) ((l,(((l.length:Nat):Int),((i:Int),()))),(((x,()),()),()))=some ((RZ x (l.drop i) i,()),((x,()),())):=by
  intro n
  induction n with
  |zero =>intro i hi;refine ar DQ ?_;refine ag (decide_eq_false (show ¬((i:Int)<((l.length:Nat):Int)) by omega)) ?_;rw[List.drop_eq_nil_of_le (by omega)];rfl
  |succ n ih =>
   intro i hi;have aH:i<l.length:=by omega
   have amo:FX G 231 KN ((l[i],()),((x.1.1,(x.1.2,(x.2,()))),()))=some (((((l[i].1.1.1==x.1.1)&&(l[i].1.1.2==x.1.2))&&(l[i].1.2==x.2)),()),((x.1.1,(x.1.2,(x.2,()))),())) :=av (hG _ _ rfl) aeV rfl;refine ar DQ ?_;refine af (aN aH) (aa (aw (aby aH)) ?_);refine aa amo ?_;rw[List.drop_eq_getElem_cons aH,RZ];by_cases he:l[i].1=x
   ·rw[if_pos he];exact af ((lJ l[i].1 x).trans (decide_eq_true he)) rfl
   ·rw[if_neg he];refine ag ((lJ l[i].1 x).trans (decide_eq_false he)) ?_;have:=ih (i+1) (by omega);have e:=aA aH hl;show LX G 232230 jP Tryz.f230 ku (aF Tryz.prog 230 0) ((l,(((l.length:Nat):Int),(IntKind.wrap .i64 ((i:Int)+1),()))),(((x,()),()),()))=some ((RZ x (l.drop (i+1)) ((i+1:Nat):Int),()),((x,()),()))
    grind
 have:=loop l.length 0 (by omega);rw[List.drop_zero]at this;exact this
theorem agm(hG:HG G)(l:List aB)(x:ae)(hl:l.length≤1073741824):FX G 217 KK ((l,x,()),())=some (qL zD (g8 l x),()):=by
 refine av (hG _ _ rfl) aeR ?_;refine aa (Wb hG l x hl) ?_;rcases LL x l 0 with⟨h1,h2⟩|⟨k,g,h1,h2,h3⟩
 ·have h1:RZ x l 0 = -1:=h1;rw[h2];exact af (decide_eq_true (show RZ x l 0<0 by omega)) rfl
 ·have h1:RZ x l 0=(k:Int):=by simp_all
  rw[h3];refine ag (decide_eq_false (show ¬RZ x l 0<0 by omega)) ?_;refine aa (show aR l (RZ x l 0)=some g by grind [aw]) ?_;rfl
theorem agn(hG:HG G)(s:StateT)(x:ae)(hs:Sm s.1)(hg:s.2.length≤50000000):FX G 193 AH ((s,x,()),())=some ((resolve s x,()),()):=by
 refine av (hG _ _ rfl) aeE ?_;have hw:IntKind.wrap .i64 (((s.2.length:Nat):Int)+1)=((s.2.length+1:Nat):Int):=by grind [wrap_small]
 have loop:∀(n i:Nat) (y:ae),i+n=s.2.length+1→LX G 193 AH Tryz.f193 xm (aF Tryz.prog 193 0) (((IntKind.wrap .i64 (((s.2.length:Nat):Int)+1)),((i:Int),())),(((s,()),((y,()),((zD,()),()))),()))=some ((res s.1 s.2 n y,()),()):=by
  intro n
  induction n with
  |zero =>intro i y hi;refine ar OG ?_;exact ag (decide_eq_false (show ¬((i:Int)<IntKind.wrap .i64 (((s.2.length:Nat):Int)+1)) by rw[hw];omega)) rfl
  |succ n ih =>
   intro i y hi;refine ar OG ?_;refine af (decide_eq_true (show((i:Int)<IntKind.wrap .i64 (((s.2.length:Nat):Int)+1)) by rw[hw];omega)) ?_;refine aa (aaF hG s.1 y hs) ?_;rw[res];have h1:(qL zI (cg s.1 y)).2.1=(cg s.1 y).isSome:=gV _ _
   cases ha:(cg s.1 y).isSome
   ·rw[if_neg (by simp)];refine ag (h1.trans ha) ?_;refine aa (agm hG s.2 y (by omega)) ?_
    cases hf:g8 s.2 y with
    |none=>rfl
    |some z =>
     refine ag rfl ?_;have:=ih (i+1) z (by omega);have e:IntKind.wrap .i64 ((i:Int)+1)=((i+1:Nat):Int):=by grind [wrap_small]
     rw[←e]at this;exact this
   ·rw[if_pos rfl];exact af (h1.trans ha) rfl
 exact loop (s.2.length+1) 0 x (by omega)
theorem ago(hG:HG G)(s:StateT)(c:rj)(hs:Sm s.1)(hg:s.2.length≤50000000):FX G 157 KE ((s,c,()),())=some (bA s c,()):=by
 refine av (hG _ _ rfl) aep ?_;refine aa (agl hG s.1 c.1 hs) ?_;unfold bA
 cases hf:br s.1 c.1 with
 |none=>rfl
 |some v =>
  refine ag rfl ?_;refine aa (agn hG s c.2 hs hg) ?_;refine aa (G7 hG v.2.1 (resolve s c.2) (by have:=hs.r v (ed hf);omega)) ?_;show _=some (((c.1,xU s c v),((0:Int),())),());unfold xU;by_cases hm:resolve s c.2∈v.2.1
  ·simp_all
  ·rw[if_neg hm];exact aV (decide_eq_false hm) rfl
def sX(G:(f:FuncId)→(g:aP)→Option (g.A→Option g.B)):Prop:=∀d,Wf d→FX G 96 AF ((d,()),())=some ((decide (bH d=0),()),())
theorem Pk{l:List ai}{e:List ak}{c:rj}{v:ai}(hs:bZ l)(hf:aT l c.1=some v)(x:ae):l.set (bT l c.1) (v.1,(nu v.2.1 c.2 x,v.2.2))=(bU (l,e) c x).1:=by
 grind [Np,di,iQ,ed,bU,Vs.cp,kD]
theorem Ew{d:an}(h:Wf d):qA d.1 d.2=true:=by unfold qA;have h1:=h.nv;have h2:=h.ne;simp only[Bool.and_eq_true,decide_eq_true_eq,List.all_eq_true];exact⟨by omega,by omega,fun v hv=>by have:=h.sQ v hv;omega⟩
theorem YP(hG:HG G)(hp:sX G)(o:bj):fg G o:=by
 intro s h hm Sy;have Mu:=h.d.nv;have bw:=h.d.ne;have hn:=h.n;have YL:=h.d.small;have bM:=VG hm;have start:∀(e:Int) (w:aW),bC 114 qD Tryz.f114 (FX G) (LX G 114 qD Tryz.f114) ((o,()),(aQ s,()))=some ((e,()),(w,()))→FX G 114 qD ((o,()),(aQ s,()))=some ((e,()),(w,())):=fun e w a =>av (hG _ _ rfl) a rfl;have f110:=aay hG (aQ s) (bh o) h.d.se (by show s.1.2.length≤_;omega);unfold nT
 cases hf:(aY s.1.2 (bh o)).isSome with
 |true =>have e1:vm (aQ s) (bh o)=(12,aQ s):=if_pos hf;rw[e1]at f110;refine⟨12,aQ s,start _ _ ((abz).trans (af (Ew h.d) (aa f110 (af rfl rfl)))),?_⟩;rw[if_pos (show(gN s.1 (bh o)).isSome=true from hf)];rfl
 |false =>
 rw[if_neg (show ¬(gN s.1 (bh o)).isSome=true by show ¬(aY s.1.2 (bh o)).isSome=true;rw[hf];simp)];by_cases h40:40≤s.1.2.length
 ·have e1:vm (aQ s) (bh o)=(3,aQ s):=(if_neg (show ¬(aY s.1.2 (bh o)).isSome=true by rw[hf];simp)).trans (if_pos h40);rw[e1]at f110;refine⟨3,aQ s,start _ _ ((abz).trans (af (Ew h.d) (aa f110 (af rfl rfl)))),?_⟩;rw[if_pos h40];rfl
 rw[if_neg h40];obtain⟨E,hE⟩:∃E,E=dB (bh o,(e0,0)) s.1.2:=⟨_,rfl⟩;have e1:vm (aQ s) (bh o)=(0,(s.1.1,(E,(s.2,())))):=by rw[hE];exact(if_neg (show ¬(aY s.1.2 (bh o)).isSome=true by rw[hf];simp)).trans (if_neg h40)
 rw[e1]at f110;obtain⟨x,hx⟩:∃x:ae,x=(bh o,0):=⟨_,rfl⟩;obtain⟨y,hy⟩:∃y:ae,y=(bh o,1):=⟨_,rfl⟩;have f111:FX G 156 Da ((bh o,()),())=some ((x,y,()),()):=by rw[hx,hy];exact av (hG _ _ rfl) aag rfl
 have f112:=fun c:rj=>ago hG s c h.d.sm (by omega);have go:∀(e:Int) (w:aW),LX G 114 qD Tryz.f114 mR (aF Tryz.prog 114 0) (((2:Int),((0:Int),())),(((s.1.1,(E,(s.2,()))),((s,()),((x,()),()))),([x,y],([oA o,oB o],()))))=some ((e,()),(w,()))→FX G 114 qD ((o,()),(aQ s,()))=some ((e,()),(w,())):=fun e w a =>start _ _ ((abz).trans (af (Ew h.d) (aa f110 (ag rfl (aa f111 a)))));by_cases hA:(bA s (oA o)).2.1=0
 case neg =>
  rw[if_pos hA];have amp:bA s (oA o)=(zC,(13,())):=by
   unfold bA at hA ⊢
   grind
  refine⟨13,(s.1.1,(E,(s.2,()))),go _ _ ?_,rfl⟩;refine ar zp ?_;refine af rfl (af rfl (aa (a:=oA o) rfl (aa (f112 (oA o)) ?_)));rw[amp];rfl
 rw[if_neg (fun k=>k hA)];obtain⟨va,ca⟩:=qU hA;obtain⟨cA,hcA⟩:∃c:rj,c=(bA s (oA o)).1:=⟨_,rfl⟩;have eA:bA s (oA o)=(cA,(0,())):=by
  grind
 have cAv:(aT s.1.1 cA.1).isSome=true:=by rw[hcA,ca];exact va
 obtain⟨v1,yI⟩:=acV.1 cAv;have aca:=ed yI;obtain⟨d1,RL⟩:∃d1:an,d1=bU (s.1.1,E) cA x:=⟨_,rfl⟩;have amq:s.1.1.set (bT s.1.1 cA.1) (v1.1,(nu v1.2.1 cA.2 x,v1.2.2))=d1.1:=by rw[RL];exact Pk h.d.sv yI x
 have d1s:bZ d1.1:=by rw[RL];exact h.d.sv.re _ _
 have hl1:=(abJ.1 (di h.d.sv yI)).1;have aaG:∀v∈d1.1,v.2.1.length≤50000000:=fun v hv=>by
  rw[RL]at hv;obtain⟨w,hw,rfl⟩:=acU.1 (show v∈s.1.1.map (uf cA.1 (nu (bI (s.1.1,E) cA.1) cA.2 x)) from hv);have h1:=h.d.sQ w hw;unfold uf
  split
  ·have h2:=AS (bI (s.1.1,E) cA.1) cA.2 x;have h3:(bI (s.1.1,E) cA.1).length≤80:=by rw[←iQ yI,kD (d:=(s.1.1,E)) h.d.sv aca];exact h.d.sQ v1 aca
   grind
  ·omega
 have d1l:d1.1.length=s.1.1.length:=by grind
 have aaH:∀(e:Int) (w:aW),LX G 114 qD Tryz.f114 mR (aF Tryz.prog 114 0) (((2:Int),((1:Int),())),(((d1.1,(E,(s.2,()))),((s,()),((x,()),()))),([x,y],([oA o,oB o],()))))=some ((e,()),(w,()))→FX G 114 qD ((o,()),(aQ s,()))=some ((e,()),(w,())):=fun e w a=>by
  refine go _ _ ?_;refine ar zp ?_;refine af rfl (af rfl (aa (a:=oA o) rfl (aa (f112 (oA o)) ?_)));rw[eA];refine ag rfl (ag rfl ?_);refine aa (rp hG (s.1.1,(E,(s.2,()))) cA.1 h.d.sv YL.n) ?_;refine af (cd (fq _) (aN hl1)) (aa (di h.d.sv yI) ?_);refine af rfl (aa (a:=x) rfl ?_);refine aa (VD hG v1.2.1 cA.2 x (YL.r v1 aca)) ?_;refine aa (di h.d.sv yI) ?_;have key:∀a1:List ai,a1=d1.1→LX G 114 qD Tryz.f114 mR (aF Tryz.prog 114 0) (((2:Int),((1:Int),())),(((a1,(E,(s.2,()))),((s,()),((x,()),()))),([x,y],([oA o,oB o],()))))=some ((e,()),(w,())):=fun a1 SA=>by grind
  exact key _ amq
 by_cases hB:(bA s (oB o)).2.1=0
 case neg =>
  rw[if_pos hB];have amr:bA s (oB o)=(zC,(13,())):=by
   unfold bA at hB ⊢
   cases hv:br s.1 (oB o).1 with
   |none=>rfl
   |some v=>grind
  refine⟨13,(d1.1,(E,(s.2,()))),aaH _ _ ?_,rfl⟩;refine ar zp ?_;refine af rfl (af rfl (aa (a:=oB o) rfl (aa (f112 (oB o)) ?_)));rw[amr];rfl
 rw[if_neg (fun k=>k hB)];obtain⟨vb,cb⟩:=qU hB;obtain⟨cB,hcB⟩:∃c:rj,c=if(br s.1 (oB o).1).isSome=true∧(oB o).2=(bh o,0) then oB o else(bA s (oB o)).1:=⟨_,rfl⟩
 have eB:bA s (oB o)=((bA s (oB o)).1,(0,())):=by
  grind
 have cB1:cB.1=(oB o).1:=by rw[hcB];split;rfl;exact cb
 have cBv:(aT d1.1 cB.1).isSome=true:=by rw[RL];exact xZ _ (by rw[cB1];exact vb)
 obtain⟨v2,Bu⟩:=acV.1 cBv;have agq:=ed Bu;have Ah:=(abJ.1 (di d1s Bu)).1;obtain⟨d2,hd2⟩:∃d2:an,d2=bU d1 cB y:=⟨_,rfl⟩;have YQ:d1.1.set (bT d1.1 cB.1) (v2.1,(nu v2.2.1 cB.2 y,v2.2.2))=d2.1:=by grind [Pk]
 have aaI:g9 s o=d2:=by rw[hd2,RL,hcA,hcB,hx,hy,hE];rfl
 have hE2:d2.2=E:=by rw[hd2,RL];rfl
 have hwf:Wf d2:=by
  rw[←aaI];unfold g9;have hn0:aY s.1.2 (bh o)=none:=by simpa using hf
  refine h.d.link bM hn0 h40 (by grind) ?_;rw[←hcB,cB1];exact vb
 have last:∀(e:Int) (w:aW),LX G 114 qD Tryz.f114 mR (aF Tryz.prog 114 0) (((2:Int),((2:Int),())),(((d2.1,(E,(s.2,()))),((s,()),((x,()),()))),([x,y],([oA o,oB o],()))))=some ((e,()),(w,()))→FX G 114 qD ((o,()),(aQ s,()))=some ((e,()),(w,())):=fun e w a=>by
  refine aaH _ _ ?_;refine ar zp ?_;refine af rfl (af rfl (aa (a:=oB o) rfl (aa (f112 (oB o)) ?_)));rw[eB];have key:∀a2:List ai,a2=d2.1→LX G 114 qD Tryz.f114 mR (aF Tryz.prog 114 0) (((2:Int),((2:Int),())),(((a2,(E,(s.2,()))),((s,()),((x,()),()))),([x,y],([oA o,oB o],()))))=some ((e,()),(w,())):=fun a2 SB=>by grind
  refine ag rfl (af rfl ?_);have rC:=lJ (oB o).2 x;by_cases hbe:(oB o).2=x
  ·have ecB:cB=oB o:=by grind
   refine af (rC.trans (decide_eq_true hbe)) ?_;rw[ecB]at Bu Ah YQ;refine aa (rp hG (d1.1,(E,(s.2,()))) (oB o).1 d1s (by grind)) ?_;refine af (cd (fq _) (aN Ah)) (aa (di d1s Bu) ?_);refine af rfl (aa (a:=y) rfl ?_);refine aa (VD hG v2.2.1 (oB o).2 y (aaG v2 agq)) ?_;refine aa (di d1s Bu) ?_;exact key _ YQ
  ·have ecB:cB=(bA s (oB o)).1:=by grind
   refine ag (rC.trans (decide_eq_false hbe)) ?_;rw[ecB]at Bu Ah YQ;refine aa (rp hG (d1.1,(E,(s.2,()))) (bA s (oB o)).1.1 d1s (by grind)) ?_;refine af (cd (fq _) (aN Ah)) (aa (di d1s Bu) ?_);refine af rfl (aa (a:=y) rfl ?_);refine aa (VD hG v2.2.1 (bA s (oB o)).1.2 y (aaG v2 agq)) ?_;refine aa (di d1s Bu) ?_;exact key _ YQ
 have f114:=hp d2 hwf;rw[aaI];have e2:(d2.1,E)=d2:=by rw[←hE2]
 by_cases hg:bH d2=0
 ·rw[if_neg (fun k=>k hg)];refine⟨0,(d2.1,(E,(s.2,()))),last _ _ ?_,?_⟩
  ·refine ar zp ?_;refine ag rfl ?_;have key:∀q:an,q=d2→((FX G 96 AF ((q,()),())).bind fun(K0:((Bool×Unit)×Unit))=>cond (not K0.1.1) (some (((15:Int),()),((d2.1,(E,(s.2,()))),()))) (some (((0:Int),()),((d2.1,(E,(s.2,()))),()))))=some (((0:Int),()),((d2.1,(E,(s.2,()))),())):=fun q hq=>by subst hq;exact aa f114 (aV (decide_eq_true hg) rfl)
   exact key _ e2
  ·show(BS (d2.1,(E,(s.2,()))),((0:Int),()))=((d2,s.2),(0,()));show(((d2.1,E),s.2),((0:Int),()))=((d2,s.2),(0,()));rw[e2]
 ·rw[if_pos hg];refine⟨15,(d2.1,(E,(s.2,()))),last _ _ ?_,rfl⟩;refine ar zp ?_;refine ag rfl ?_;have key:∀q:an,q=d2→((FX G 96 AF ((q,()),())).bind fun(K0:((Bool×Unit)×Unit))=>cond (not K0.1.1) (some (((15:Int),()),((d2.1,(E,(s.2,()))),()))) (some (((0:Int),()),((d2.1,(E,(s.2,()))),()))))=some (((15:Int),()),((d2.1,(E,(s.2,()))),())):=fun q hq=>by subst hq;exact aa f114 (aV (decide_eq_false hg) rfl)
  exact key _ e2
theorem agr(hG:HG G)(row:List ae)(d:ae)(hl:row.length≤100000000):FX G 245 KQ ((row,d,()),())=some (Le (dw row d 1),()):=by
 refine av (hG _ _ rfl) ae3 ?_;have key:FX G 221 Dg ((row,(d,((1:Int),()))),())=some (Le (dw row d 1),()):=by
  refine av (hG _ _ rfl) aai ?_;refine aa (D9 (hG _ _ rfl) row d (by omega)) ?_;unfold dw;by_cases hd:d∈row
  ·rw[if_pos hd];obtain⟨k,h1,h2,h3⟩:=eu hd;have aH:=(abJ.1 h2).1;refine ag (decide_eq_false (show ¬idx d row 0<0 by omega)) ?_;refine ag (IS hd) ?_;have M9:IntKind.wrap .i64 (idx d row 0+1)=((k+1:Nat):Int):=by grind [wrap_small]
   have zw:(k+1)%row.length<row.length:=adp _ (by omega);have hx:=aby zw;refine aa (show aR row (Int.tmod (IntKind.wrap .i64 (idx d row 0+1)) ((row.length:Nat):Int))=some row[(k+1)%row.length] by rw[M9,sL];exact aw hx) ?_;rw[h1,Int.toNat_natCast,hx];rfl
  ·rw[if_neg hd];exact af (decide_eq_true (eU.2 hd)) rfl
 refine aa key ?_;rfl
def LM(x:ae):List ai→Option ae
 |[]=>none
 |v::r=>if x∈v.2.1 then dw v.2.1 x 1 else LM x r
theorem Pn{l:List ai}(h:Rw l){v:ai}{x:ae}(hv:v∈l)(hx:x∈v.2.1):∀r,(∀u∈r,u∈l)→v∈r→LM x r=dw v.2.1 x 1
 |[],_,k=>by cases k
 |u::r,hs,k=>by
  rw[LM];by_cases hu:x∈u.2.1
  ·rw[if_pos hu,h.one hv (hs u List.mem_cons_self) hx hu]
  ·rw[if_neg hu];rcases abL.1 k with e|k
   ·rw[e]at hx;exact absurd hx hu
   ·exact Pn h hv hx r (fun w hw=>hs w (abC _ hw)) k
theorem Hu{x:ae}:∀{l:List ai},x∉aq l→LM x l=none
 |[],_=>rfl
 |v::r,h=>by simp_all [dR,List.mem_append,LM,if_neg,Hu]
theorem Nz{d:an}(h:Rw d.1)(x:ae):LM x d.1=j9 d x:=by
 by_cases hx:x∈aq d.1
 ·obtain⟨v,hv,oG⟩:=aU.1 hx
  grind [Em,Pn]
 grind [Hu,j9,cg,Lr]
theorem ags(hG:HG G)(d:an)(x:ae)(hs:Sm d)(h:Rw d.1):FX G 240 AK ((d,x,()),())=some (Le (j9 d x),()):=by
 have hv:=hs.v;rw[←Nz h x];refine av (hG _ _ rfl) ae0 ?_;have loop:∀(n i:Nat),i+n=d.1.length→LX G 240 AK Tryz.f240 xy (aF Tryz.prog 240 0) ((d.1,(((d.1.length:Nat):Int),((i:Int),()))),(((x,()),((zD,()),())),()))=some (Le (LM x (d.1.drop i)),()):=by
  intro n
  induction n with
  |zero =>intro i hi;refine ar OT ?_;refine ag (decide_eq_false (show ¬((i:Int)<((d.1.length:Nat):Int)) by omega)) ?_;rw[List.drop_eq_nil_of_le (by omega)];rfl
  |succ n ih =>
   intro i hi;have aH:i<d.1.length:=by omega
   refine ar OT ?_;refine af (aN aH) (aa (aw (aby aH)) ?_);refine aa (agr hG d.1[i].2.1 x (by have:=hs.r _ (acv aH);omega)) ?_;rw[List.drop_eq_getElem_cons aH,LM];by_cases he:x∈d.1[i].2.1
   ·rw[if_pos he];unfold dw;rw[if_pos he];obtain⟨k,h1,h2,h3⟩:=eu he;have hl:=(abJ.1 h2).1;have hm:((idx x d.1[i].2.1 0).toNat+1)%d.1[i].2.1.length<d.1[i].2.1.length:=adp _ (by omega);rw[List.getElem?_eq_getElem hm];rfl
   ·rw[if_neg he];unfold dw;rw[if_neg he];refine ag rfl ?_;have:=ih (i+1) (by omega);rw[←aA aH (by omega)]at this;exact this
 have:=loop d.1.length 0 (by omega);rw[List.drop_zero]at this;exact this
theorem at_mem{d:an}{x:ae}(h:(cg d x).isSome=true):x∈aq d.1:=by
 apply Classical.byContradiction
 grind [cg,Lr]
theorem agt(hG:HG G)(d:an)(x:ae)(h:Wf d):FX G 235 GL ((d,x,()),())=some (Le (Jy d x),()):=by
 have hs:=h.sm;refine av (hG _ _ rfl) aeY ?_;refine aa (aaF hG d x hs) ?_;have h1:(qL zI (cg d x)).2.1=(cg d x).isSome:=gV _ _;unfold Jy
 cases ha:(cg d x).isSome
 ·rw[if_neg (by simp)];exact aV (h1.trans ha) rfl
 ·rw[if_pos rfl];refine aV (h1.trans ha) ?_;refine aa (Lw (hG _ _ rfl) x (h.side (at_mem ha))) ?_;exact aa (ags hG d (aj x) hs h.rw) rfl
theorem agu(hG:HG G)(d:an)(hs:Sm d):FX G 223 xg ((d,()),())=some ((eV d.2,()),()):=by
 have he:=hs.e;refine av (hG _ _ rfl) aeX ?_;have loop:∀(n i:Nat) (out:List ae),i+n=d.2.length→out.length=2*i→LX G 223 xg Tryz.f223 xu (aF Tryz.prog 223 0) ((d.2,(((d.2.length:Nat):Int),((i:Int),()))),((),(out,())))=some ((out++eV (d.2.drop i),()),()):=by
  intro n
  induction n with
  |zero =>intro i out hi ho;refine ar ON ?_;refine ag (decide_eq_false (show ¬((i:Int)<((d.2.length:Nat):Int)) by omega)) ?_;rw[List.drop_eq_nil_of_le (by omega)];show some ((out,()),())=some ((out++[],()),());simp_all
  |succ n ih =>
   intro i out hi ho;have aH:i<d.2.length:=by omega
   refine ar ON ?_;refine af (aN aH) (aa (aw (aby aH)) ?_);refine aa (Lw (hG _ _ rfl) (d.2[i].1,0) (.inl rfl)) ?_;refine af (fits (by show out.length+2≤_;omega)) ?_;have:=ih (i+1) (out++[(d.2[i].1,0),(d.2[i].1,1)]) (by omega) (by simp[ho];omega);rw[List.drop_eq_getElem_cons aH];rw[←aA aH (by omega),List.append_assoc]at this;exact this
 exact loop d.2.length 0 [] (by omega) rfl
theorem Wc(hG:HG G)(l:List ai)(hl:l.length≤50000000):FX G 207205 lh ((l,()),())=some ((((al l:Nat):Int),()),()):=by
 refine av (hG _ _ rfl) UY ?_;have loop:∀(n i m:Nat),i+n=l.length→m≤i→LX G 207205 lh Tryz.f205 kx (aF Tryz.prog 205 0) (((m:Int),(l,(((l.length:Nat):Int),((i:Int),())))),((),()))=some ((((m+al (l.drop i):Nat):Int),()),()):=by
  intro n
  induction n with
  |zero =>intro i m hi hm;refine ar DR ?_;refine ag (decide_eq_false (show ¬((i:Int)<((l.length:Nat):Int)) by omega)) ?_;rw[List.drop_eq_nil_of_le (by omega)];rfl
  |succ n ih =>
   intro i m hi hm;have aH:i<l.length:=by omega
   have amu:FX G 206 KO ((l[i],()),())=some ((l[i].2.1.isEmpty,()),()):=by
    refine av (hG _ _ rfl) aeW ?_;have:(((l[i].2.1.length:Nat):Int)==0)=l[i].2.1.isEmpty:=by cases l[i].2.1<;>simp;omega
    exact congrArg (fun b:Bool=>some ((b,()),())) this
   refine ar DR ?_;refine af (aN aH) (aa (aw (aby aH)) ?_);refine aa amu ?_;rw[List.drop_eq_getElem_cons aH];unfold al;rw[List.countP_cons]
   cases hb:l[i].2.1.isEmpty
   ·refine ag rfl ?_;have:=ih (i+1) m (by omega) (by omega);rw[←aA aH (by omega)]at this;exact this
   ·refine af rfl ?_;have:=ih (i+1) (m+1) (by omega) (by omega);rw[←aA aH (by omega),←aA (i:=m) (n:=l.length) (by omega) (by omega)]at this;refine this.trans ?_;refine congrArg (fun q:Nat=>some ((((q:Nat):Int),()),())) ?_
    grind [al]
 have:=loop l.length 0 0 (by omega) (by omega);rw[List.drop_zero,Nat.zero_add]at this;exact this
def Fo(g:List Nat):Prop:=∀(i x:Nat),g[i]? = some x→x≤i
def root(g:List Nat)(i:Nat):Nat :=match g[i]? with
 |some x=>if h:x<i then root g x else i
 |none=>i
termination_by i
theorem eg{g:List Nat}{i x:Nat}(h:g[i]? = some x):root g i=if x<i then root g x else i:=by rw[root,h];simp
theorem uB{g:List Nat}{i:Nat}(h:g[i]? = none):root g i=i:=by rw[root,h]
theorem Po(g:List Nat):∀i,root g i≤i:=by
 intro i
 induction i using Nat.strongRecOn with
 |_ i ih =>
  cases h:g[i]? with
  |none=>rw[uB h];omega
  |some x =>
   rw[eg h]
   grind
theorem LN{g:List Nat}(hf:Fo g):∀i,i<g.length→g[root g i]? = some (root g i):=by
 intro i
 induction i using Nat.strongRecOn with
 |_ i ih =>
  intro hi;have h:=aby hi;rw[eg h]
  split
  ·grind
  ·have:=hf i _ h
   grind
theorem mi{g:List Nat}{i:Nat}(h:g[i]? = some i):root g i=i:=by simp_all [eg,if_neg]
theorem Fo.set{g:List Nat}(hf:Fo g){i y:Nat}(h:y≤i):Fo (g.set i y):=fun j x hj=>by
 rw[List.getElem?_set]at hj
 split at hj
 ·simp_all
 ·exact hf j x hj
theorem NA{g:List Nat}(hf:Fo g){i x y:Nat}(hi:g[i]? = some x)(hx:g[x]? = some y)(aH:x<i):∀j,root (g.set i y) j=root g j:=by
 have hyx:=hf x y hx;have o8:=(abJ.1 hi).1;intro j
 induction j using Nat.strongRecOn with
 |_ j ih =>
  by_cases e:j=i
  ·subst e;have h1:(g.set j y)[j]? = some y:=by simp_all
   rw[eg h1,if_pos (by omega),ih y (by omega),eg hi,if_pos aH,eg hx]
   grind [mi]
  ·have h1:(g.set i y)[j]? = g[j]? := by grind
   cases h:g[j]? with
   |none=>grind [uB]
   |some z =>simp_all [eg]
theorem R1{g:List Nat}{a b:Nat}(ha:g[a]? = some a)(hb:g[b]? = some b):∀j,root (g.set (max a b) (min a b)) j=if root g j=max a b then min a b else root g j:=by
 have hm:g[max a b]? = some (max a b):=by grind
 have hn:g[min a b]? = some (min a b):=by grind
 have hml:=(abJ.1 hm).1;have hle:min a b≤max a b:=by omega
 generalize max a b=M at *;generalize min a b=m at *;have aH:∀j,(g.set M m)[j]? = if j=M then some m else g[j]? := fun j=>by
  grind
 intro j
 induction j using Nat.strongRecOn with
 |_ j ih =>
  by_cases ej:j=M
  ·subst ej;have h1:(g.set j m)[j]? = some m:=by simp_all
   rw[eg h1,mi hm,if_pos rfl];by_cases e:m<j
   ·simp_all [if_pos,mi,if_neg]
   grind
  ·have h1:(g.set M m)[j]? = g[j]? := by simp_all
   cases h:g[j]? with
   |none=>simp_all [uB,if_neg]
   |some z =>
    rw[eg h,eg (h1.trans h)]
    grind
def fI(g:List Nat):List Int:=g.map fun n=>((n:Nat):Int)
theorem Ex(g:List Nat):(fI g).length=g.length:=by simp[fI]
theorem wi{g:List Nat}{i x:Nat}(h:g[i]? = some x):(fI g)[Int.toNat (i:Int)]? = some (x:Int):=by simp[fI,h]
theorem We(g:List Nat)(i x:Nat):(fI g).set (Int.toNat (i:Int)) (x:Int)=fI (g.set i x):=by simp[fI,List.map_set]
theorem Ey{g:List Nat}{i:Nat}(h:i<g.length):(decide ((0:Int)≤(i:Int))&&decide ((i:Int)<(((fI g).length:Nat):Int)))=true:=by
 grind [Ex,cd,fq,aN]
structure Hv(g g':List Nat):Prop where
 f:Fo g'
 n:g'.length=g.length
 r:∀j,root g' j=root g j
theorem Hv.trans{a b c:List Nat}(h:Hv a b)(k:Hv b c):Hv a c:=⟨k.f,k.n.trans h.n,fun j=>(k.r j).trans (h.r j)⟩
theorem Wg(hG:HG G)(g:List Nat)(i:Nat)(hf:Fo g)(hi:i<g.length):∃g',Hv g g'∧FX G 242 sx (((i:Int),()),(fI g,()))=some ((((root g i:Nat):Int),()),(fI g',())):=by
 have loop:∀(i:Nat) (g:List Nat),Fo g→i<g.length→∃g',Hv g g'∧LX G 242 sx Tryz.f242 tU (aF Tryz.prog 242 0) (((i:Int),()),((),(fI g,())))=some ((((root g i:Nat):Int),()),(fI g',())):=by
  intro i
  induction i using Nat.strongRecOn with
  |_ i ih =>
   intro g hf hi;have h:=aby hi;generalize g[i]=x at h;have hxi:=hf i x h;by_cases hx:x<i
   ·have h2:=aby (show x<g.length by omega);generalize g[x]=y at h2;have hyx:=hf x y h2;have hs:=NA hf h h2 hx;have hf2:Fo (g.set i y):=hf.set (by omega);obtain⟨g',h3,h4⟩:=ih y (by omega) (g.set i y) hf2 (by grind);refine⟨g',⟨h3.f,by rw[h3.n,List.length_set],fun j=>(h3.r j).trans (hs j)⟩,?_⟩;refine ar OU ?_;refine af (Ey hi) (aa (wi h) ?_);refine af (show(((x:Nat):Int) != (i:Int))=true by grind) ?_;refine af (Ey hi) (aa (wi h) ?_);refine af (Ey (show x<g.length by omega)) (aa (wi h2) ?_);refine af (Ey hi) (aa (wi h) ?_);have amv:=We g i y;have key:∀f:List Int,f=fI (g.set i y)→cond ((decide ((0:Int)≤(i:Int)))&&(decide ((i:Int)<(((List.length f):Nat):Int)))) (((f)[(Int.toNat (i:Int))]?).bind fun(y5:Int)=>LX G 242 sx Tryz.f242 tU (aF Tryz.prog 242 0) ((y5,()),((),(f,())))) none=some ((((root g i:Nat):Int),()),(fI g',())):=fun f hf=>by
     subst hf;refine af (Ey (by simp_all)) (aa (wi (x:=y) (by simp_all)) ?_);rw[h4,hs y,eg h,if_pos hx,eg h2];by_cases hy:y<x
     ·rw[if_pos hy]
     ·have:y=x:=by omega
      subst this;rw[if_neg (by omega),mi h2]
    exact key _ amv
   ·have:x=i:=by omega
    subst this;refine⟨g,⟨hf,rfl,fun _=>rfl⟩,?_⟩;refine ar OU ?_;refine af (Ey hi) (aa (wi h) ?_);rw[mi h];exact ag (by simp) rfl
 obtain⟨g',h1,h2⟩:=loop i g hf hi;exact⟨g',h1,av (hG _ _ rfl) ae2 h2⟩
def Ez(a b r:Nat):Nat:=if r=max a b then min a b else r
theorem agv(hG:HG G)(g:List Nat)(i k:Nat)(hf:Fo g)(hi:i<g.length)(hk:k<g.length):∃g',Fo g'∧g'.length=g.length∧(∀j,root g' j=Ez (root g i) (root g k) (root g j))∧FX G 241 KP (((i:Int),((k:Int),())),(fI g,()))=some ((),(fI g',())):=by
 obtain⟨g1,h1,e1⟩:=Wg hG g i hf hi;obtain⟨g2,h2,e2⟩:=Wg hG g1 k h1.f (by rw[h1.n];exact hk);rw[h1.r k]at e2;have hs:=h1.trans h2;have ra:g2[root g i]? = some (root g i):=by have:=LN hs.f i (by rw[hs.n];exact hi);rw[hs.r i]at this;exact this
 have rb:g2[root g k]? = some (root g k):=by have:=LN hs.f k (by rw[hs.n];exact hk);rw[hs.r k]at this;exact this
 have hal:=(abJ.1 ra).1;have hbl:=(abJ.1 rb).1;have hm:max (root g i) (root g k)<g2.length:=by omega
 refine⟨g2.set (max (root g i) (root g k)) (min (root g i) (root g k)),hs.f.set (by omega),by rw[List.length_set,hs.n],fun j=>by rw[R1 ra rb j,hs.r j];rfl,?_⟩;refine av (hG _ _ rfl) ae1 ?_;refine aa e1 (aa e2 ?_);have em:(max ((root g i:Nat):Int) ((root g k:Nat):Int):Int)=((max (root g i) (root g k):Nat):Int):=by omega
 have en:(min ((root g i:Nat):Int) ((root g k:Nat):Int):Int)=((min (root g i) (root g k):Nat):Int):=by omega
 have key:∀m n:Int,m=((max (root g i) (root g k):Nat):Int)→n=((min (root g i) (root g k):Nat):Int)→cond ((decide ((0:Int)≤m))&&(decide (m<(((List.length (fI g2)):Nat):Int)))) (((fI g2)[(Int.toNat m)]?).bind fun(y3:Int)=>(some ((),((List.set (fI g2) (Int.toNat m) n),())):Option (Unit×((List Int)×Unit)))) none=some ((),(fI (g2.set (max (root g i) (root g k)) (min (root g i) (root g k))),())):=fun m n ZF Qg=>by subst ZF Qg;refine af (Ey hm) (aa (wi (aby hm)) ?_);rw[We]
 exact key _ _ em en
theorem EA{α:Type}(x:ae)(es:List (ae×α)):rN bm x es=es.findIdx? fun e=>decide (e.1=x):=by
 show List.findIdx? (fun e:ae×α=>((x.1.1==e.1.1.1)&&(x.1.2==e.1.1.2))&&(x.2==e.1.2)) es=_
 grind
def fh{β α:Type}[DecidableEq β](x:β):List (β×α)→Option α
 |[]=>none
 |e::r=>if e.1=x then some e.2 else fh x r
theorem NB{β α:Type}[DecidableEq β](x:β):∀es:List (β×α),((es.findIdx? fun e=>decide (e.1=x)).bind fun i=>(es[i]?).map (·.2))=fh x es
 |[]=>rfl
 |e::r=>by
  have ih:=NB x r;rw[List.findIdx?_cons,fh];by_cases h:e.1=x
  ·simp_all
  ·rw[if_neg (by simpa using h),if_neg h,←ih]
   cases r.findIdx? fun e=>decide (e.1=x)<;>simp
theorem NC{α:Type}(x:ae)(es:List (ae×α)):fz bm x es=fh x es:=by have:=NB x es;rw[←EA]at this;exact this
theorem LO{α:Type}{x:ae}(v:α){es:List (ae×α)}(h:x∉es.map (·.1)):jF bm x v es=es++[(x,v)]:=by
 have e:rN bm x es=none:=by rw[EA,List.findIdx?_eq_none_iff];intro q hq;exact decide_eq_false fun k=>h (acU.2 ⟨q,hq,k⟩)
 unfold jF
 split
 ·rename_i i k;rw[e]at k;cases k
 ·rfl
theorem LP{β α:Type}[DecidableEq β]{x:β}{v:α}:∀{es:List (β×α)},(es.map (·.1)).Nodup→(x,v)∈es→fh x es=some v
 |[],_,h=>by cases h
 |e::r,hn,h=>by
  simp only[List.map_cons,List.nodup_cons]at hn;rw[fh];rcases abL.1 h with e1|h
  ·grind
  ·rw[if_neg (fun k=>hn.1 (by simp_all))];exact LP hn.2 h
def iR:List ai→Nat→List (ae×Int)
 |[],_=>[]
 |v::r,i=>v.2.1.map (fun x=>(x,(i:Int)))++iR r (i+1)
theorem zR:∀(l:List ai) (i:Nat),(iR l i).map (·.1)=aq l
 |[],_=>rfl
 |v::r,i=>by
  have e:(v.2.1.map fun x=>(x,(i:Int))).map (·.1)=v.2.1:=by rw[List.map_map];exact List.map_id _
  rw[iR,dR,List.map_append,zR r,e]
theorem LQ:∀(a b:List ai) (i:Nat),iR (a++b) i=iR a i++iR b (i+a.length)
 |[],b,i=>rfl
 |v::r,b,i=>by rw[List.cons_append,iR,iR,LQ r b,List.append_assoc];congr 3;simp;omega
theorem LR{x:ae}{a:Int}:∀{l:List ai} {i:Nat},(x,a)∈iR l i→∃k v,l[k]? = some v∧a=((i+k:Nat):Int)∧x∈v.2.1
 |[],i,h=>by cases h
 |v::r,i,h=>by
  rw[iR]at h;rcases acS.1 h with h|h
  ·grind
  ·obtain⟨k,u,h1,h2,h3⟩:=LR h;exact⟨k+1,u,by simpa using h1,by omega,h3⟩
theorem Pp{x:ae}:∀{l:List ai} {i k:Nat} {v:ai},l[k]? = some v→x∈v.2.1→(x,((i+k:Nat):Int))∈iR l i
 |v::r,i,0,u,h,hx=>by simp at h;subst h;rw[iR];exact ab1 _ (acU.2 ⟨x,hx,rfl⟩)
 |v::r,i,k+1,u,h,hx=>by
  rw[iR];refine abV _ ?_;have:=Pp (i:=i+1) (k:=k) (by simpa using h) hx
  rwa [show i+1+k=i+(k+1) by omega]at this
theorem Wh(i:Nat):fI (List.range i)++[(i:Int)]=fI (List.range (i+1)):=by rw[List.range_succ];simp[fI]
section
variable {d:an} {y:iC.B}
theorem YR(h:Wf d){i:Nat}(hi:i<d.1.length){f:List Int}{nn:Int} (next:LX G 236 iC Tryz.f236 tT (aF Tryz.prog 236 0) ((d.1,(nn,((IntKind.wrap .i64 ((i:Int)+1)),()))),((),(f,(iR (d.1.take (i+1)) 0,()))))=some y):∀(n j:Nat) (es:List (ae×Int)),j+n=d.1[i].2.1.length→es=iR (d.1.take i) 0++(d.1[i].2.1.take j).map (fun x=>(x,(i:Int))) → LX G 236 iC Tryz.f236 xw (aF Tryz.prog 236 1) (((i:Int),(d.1,(nn,((i:Int),(d.1[i].2.1,(((d.1[i].2.1.length:Nat):Int),((j:Int),()))))))),((),(f,(es,()))))=some y:=by
 have hr:=h.sQ d.1[i] (acv hi);have et:d.1.take (i+1)=d.1.take i++[d.1[i]]:=(List.take_append_getElem hi).symm;have ev:iR (d.1.take (i+1)) 0=iR (d.1.take i) 0++d.1[i].2.1.map (fun x=>(x,(i:Int))):=by
  rw[et,LQ];have:(d.1.take i).length=i:=by rw[List.length_take];omega
  rw[this,Nat.zero_add];congr 1;show d.1[i].2.1.map (fun x=>(x,(i:Int)))++[]=_;rw[List.append_nil]
 have nd:(aq (d.1.take i)++d.1[i].2.1).Nodup:=by
  have h1:=h.rw.n;rw[←List.take_append_drop (i+1) d.1,et,kC,kC]at h1;have e2:aq [d.1[i]]=d.1[i].2.1:=by rw[dR];exact List.append_nil _
  rw[e2]at h1;exact(ada.1 h1).1
 intro n
 induction n with
 |zero =>intro j es hj he;refine ar OP ?_;refine ag (decide_eq_false (show ¬((j:Int)<((d.1[i].2.1.length:Nat):Int)) by omega)) ?_;have e:d.1[i].2.1.take j=d.1[i].2.1:=List.take_of_length_le (by omega);rw[e,←ev]at he;subst he;exact next
 |succ n ih =>
  intro j es hj he;have aH:j<d.1[i].2.1.length:=by omega
  refine ar OP ?_;refine af (aN aH) (aa (aw (aby aH)) ?_);have Cq:d.1[i].2.1[j]∉es.map (·.1):=by
   have e3:((d.1[i].2.1.take j).map fun x=>(x,(i:Int))).map (·.1)=d.1[i].2.1.take j:=by rw[List.map_map];exact List.map_id _
   rw[he,List.map_append,zR,e3,List.mem_append];rintro(k|k)
   ·exact(ada.1 nd).2.2 _ k _ (acv aH) rfl
   ·obtain⟨q,hq,he⟩:=adv k;have hq1:q<j:=by rw[List.length_take]at hq;omega
    rw[List.getElem_take]at he;have:=(List.getElem_inj (ada.1 nd).2.1).1 he;omega
  have:=ih (j+1) (jF bm d.1[i].2.1[j] (i:Int) es) (by omega) (by rw[LO _ Cq,he,←List.take_append_getElem aH,List.map_append,List.append_assoc];rfl);rw[←aA aH (by omega)]at this;exact this
theorem YS(h:Wf d) (next:LX G 236 iC Tryz.f236 qF (aF Tryz.prog 236 2) ((iR d.1 0,()),((),(fI (List.range d.1.length),((none,iR d.1 0),()))))=some y):∀(n i:Nat),i+n=d.1.length → LX G 236 iC Tryz.f236 tT (aF Tryz.prog 236 0) ((d.1,(((d.1.length:Nat):Int),((i:Int),()))),((),(fI (List.range i),(iR (d.1.take i) 0,()))))=some y:=by
 have hn:=h.nv;intro n
 induction n with
 |zero =>
  intro i hi;have e:i=d.1.length:=by omega
  subst e;refine ar OO ?_;refine ag (decide_eq_false (show ¬(((d.1.length:Nat):Int)<((d.1.length:Nat):Int)) by omega)) ?_;rw[List.take_length];exact next
 |succ n ih =>
  intro i hi;have aH:i<d.1.length:=by omega
  refine ar OO ?_;refine af (aN aH) (aa (aw (aby aH)) ?_);refine af (fits (by grind [fI,List.range,Ex])) ?_;have nx:=ih (i+1) (by omega);rw[←aA aH (by omega),←Wh]at nx;exact YR (G:=G) h aH nx d.1[i].2.1.length 0 _ (by omega) (by simp)
end
end Go.Vs
namespace Go.Vs
open Go.Proofs
variable {G:(f:FuncId)→(g:aP)→Option (g.A→Option g.B)}
theorem ND(a b:Nat):Ez a b a=min a b∧Ez a b b=min a b:=by
 grind [Ez]
structure FoI(d:an)(rem:List (ae×Int))(g:List Nat):Prop where
 f:Fo g
 n:g.length=d.1.length
 c:∀i,i<d.1.length→cv d (cQ d i) (cQ d (root g i))
 p:∀(z:ae) (i k:Nat),(z,(i:Int))∈iR d.1 0→(aj z,(k:Int))∈iR d.1 0→(z,(i:Int))∉rem→root g i=root g k
theorem yd{d:an}(h:Wf d){z:ae}{a:Int}(hm:(z,a)∈iR d.1 0):∃i:Nat,i<d.1.length∧a=(i:Int)∧z∈aq d.1∧cg d z=some (cQ d i):=by obtain⟨k,v,h1,h2,h3⟩:=LR hm;rw[Nat.zero_add]at h2;have hv:=acC h1;refine⟨k,(abJ.1 h1).1,h2,aU.2 ⟨v,hv,h3⟩,?_⟩;rw[qW h1];exact eL h.rw hv h3
theorem NF{d:an}(h:Wf d){z:ae}(hz:z∈aq d.1):∃i:Nat,(z,(i:Int))∈iR d.1 0:=by
 obtain⟨v,hv,hx⟩:=aU.1 hz;obtain⟨k,hk⟩:=adj hv;have:=Pp (i:=0) hk hx
 grind
theorem Pq{d:an}(h:Wf d){z:ae}{a:Int}(hm:(z,a)∈iR d.1 0):fz bm z (iR d.1 0)=some a:=by rw[NC];refine LP ?_ hm;rw[zR];exact h.rw.n
theorem FoI.same{d:an}(h:Wf d){g:List Nat}(hg:FoI d [] g){a b:ID}(k:cv d a b):∀i j,i<d.1.length→j<d.1.length→cQ d i=a→cQ d j=b→root g i=root g j:=by
 induction k with
 |refl=>intro i j hi hj h1 h2;rw[jZ h.sv hi hj (h1.trans h2.symm)]
 |tail _ s ih =>
  intro i j hi hj h1 h2;obtain⟨z,hz,s1,s2⟩:=s;obtain⟨m,hm⟩:=NF h hz;obtain⟨q,hq⟩:=NF h (h.other hz);obtain⟨m',m1,m2,_,m3⟩:=yd h hm;obtain⟨q',q1,q2,_,q3⟩:=yd h hq;have em:m'=m:=by omega
  have eq:q'=q:=by omega
  subst em;subst eq;rw[s1]at m3;rw[s2]at q3;have r1:=ih i m' hi m1 h1 (ac0 m3).symm;have r2:=hg.p z m' q' hm hq (by simp);have ej:q'=j:=jZ h.sv q1 hj ((ac0 q3).symm.trans h2.symm);simp_all
theorem FoI.can{d:an}(h:Wf d){g:List Nat}(hg:FoI d [] g):LJ d (fI ((List.range d.1.length).map (root g))):=by
 have wG:∀i,i<d.1.length→(fI ((List.range d.1.length).map (root g))).getD i 0=((root g i:Nat):Int):=fun i hi=>by
  grind [fI,List.getD]
 refine⟨⟨by rw[Ex];simp,fun i hi=>⟨root g i,Po g i,wG i hi,hg.c i hi⟩⟩,fun i hi j hj k=>?_⟩;rw[wG i hi,hg.same h k i j hi hj rfl rfl]
 grind [Po]
theorem YT(hG:HG G){d:an}(h:Wf d){g:List Nat}:∀(n i:Nat) (g':List Nat),i+n=d.1.length→Fo g'→g'.length=d.1.length→(∀j,root g' j=root g j) → LX G 236 iC Tryz.f236 xx (aF Tryz.prog 236 3) ((((d.1.length:Nat):Int),((i:Int),())),((),(fI g',(fI ((List.range i).map (root g)),()))))=some ((fI ((List.range d.1.length).map (root g)),()),()):=by
 have Mu:=h.nv;intro n
 induction n with
 |zero =>
  intro i g' hi h1 h2 h3;have e:i=d.1.length:=by omega
  subst e;refine ar OR ?_;exact ag (decide_eq_false (show ¬(((d.1.length:Nat):Int)<((d.1.length:Nat):Int)) by omega)) rfl
 |succ n ih =>
  intro i g' hi h1 h2 h3;have aH:i<d.1.length:=by omega
  obtain⟨g2,s,e⟩:=Wg hG g' i h1 (by omega);refine ar OR ?_;refine af (aN aH) (aa e ?_);refine af (fits (by show(fI _).length+1≤_;rw[Ex];simp;omega)) ?_;have:=ih (i+1) g2 (by omega) s.f (by rw[s.n,h2]) (fun j=>(s.r j).trans (h3 j));have e2:fI ((List.range (i+1)).map (root g))=fI ((List.range i).map (root g))++[((root g' i:Nat):Int)]:=by simp_all [List.range_succ,fI]
  rw[e2,←aA aH (by omega)]at this;exact this
theorem YU(hG:HG G){d:an}(h:Wf d):∀(n:Nat) (rem:List (ae×Int)) (g:List Nat) (o:Option (ae×Int)),rem.length=n→(∀e∈rem,e∈iR d.1 0)→FoI d rem g → LX G 236 iC Tryz.f236 qF (aF Tryz.prog 236 2) ((iR d.1 0,()),((),(fI g,((o,rem),()))))=some ((labels d,()),()):=by
 intro n
 induction n with
 |zero =>
  intro rem g o hn hr hg;have e:rem=[]:=ack hn;subst e;refine ar OQ ?_;refine af rfl ?_;have:=YT (G:=G) hG h (g:=g) d.1.length 0 g (by omega) hg.f hg.n (fun _=>rfl);rw[(hg.can h).uniq h (eO h)]at this;have e2:((fI g).length:Int)=((d.1.length:Nat):Int):=by rw[Ex,hg.n]
  rw[←e2]at this;exact this
 |succ n ih =>
  intro rem g o hn hr hg;refine ar OQ ?_;refine ag (show rem.isEmpty=false by grind) ?_;refine nO (show 0<rem.length by omega) fun j hj=>?_;have hj':j<rem.length:=hj;refine aa (aby hj') ?_;have hm:=hr _ (acv hj');generalize he:rem[j]=e at hm;obtain⟨z,a⟩:=e;obtain⟨i,hi,ha,hz,haz⟩:=yd h hm;subst ha;obtain⟨k,hk⟩:=NF h (h.other hz);obtain⟨k',uc,ek,_,hak⟩:=yd h hk;have ek':k'=k:=by omega
  subst ek';refine aa (Lw (hG _ _ rfl) z (h.side hz)) ?_;have wG:fz bm (aj z) (iR d.1 0)=some (k':Int):=Pq h hk;refine af (show(fz bm (aj z) (iR d.1 0)).isSome=true by rw[wG];rfl) ?_;obtain⟨g',h1,h2,h3,h4⟩:=agv hG g i k' hg.f (by rw[hg.n];exact hi) (by rw[hg.n];exact uc);refine aa (a:=((),(fI g',()))) (by
   have:(fz bm (aj z) (iR d.1 0)).getD (0:Int)=(k':Int):=by rw[wG];rfl
   rw[←this]at h4;exact h4) ?_
  have amw:AZ d (cQ d i) (cQ d k'):=⟨z,hz,haz,hak⟩;have cij:cv d (cQ d (root g i)) (cQ d (root g k')):=((hg.c i hi).symm h).trans (amw.conn.trans (hg.c k' uc));refine ih (rem.eraseIdx j) g' _ (by grind) (fun e he=>hr e (List.mem_of_mem_eraseIdx he)) ⟨h1,h2.trans hg.n,fun q hq=>?_,fun y p q hp hq hy=>?_⟩
  ·rw[h3 q];unfold Ez
   split
   ·rename_i e;refine(hg.c q hq).trans ?_;rw[e];rcases Nat.le_total (root g i) (root g k') with hle|hle
    ·rw[Nat.max_eq_right hle,Nat.min_eq_left hle];exact cij.symm h
    simp_all
   ·exact hg.c q hq
  ·rw[h3 p,h3 q];by_cases tM:(y,(p:Int))∈rem
   ·
    have e:(y,(p:Int))=(z,(i:Int)):=by
     apply Classical.byContradiction
     grind [List.mem_eraseIdx_iff_getElem,List.getElem_of_mem]
    have e1:y=z:=congrArg Prod.fst e;have e2:p=i:=by grind
    subst e1;subst e2;have h5:=Pq h hq
    grind [Option.some.inj,ND]
   ·rw[hg.p y p q hp hq tM]
theorem NG(n:Nat):∀i,root (List.range n) i=i:=fun i=>by
 grind [List.range,uB,List.getElem?_range,List.getElem?_eq_some_iff,Option.some.inj,mi]
theorem agx(hG:HG G)(d:an)(h:Wf d):FX G 236 iC ((d,()),())=some ((labels d,()),()):=by
 refine av (hG _ _ rfl) aeZ ?_;refine YS (G:=G) h ?_ d.1.length 0 (by omega);refine YU hG h _ (iR d.1 0) (List.range d.1.length) none rfl (fun _ k=>k) ⟨fun i x hx=>?_,by simp,fun i hi=>?_,fun z i k h1 h2 h3=>absurd h1 h3⟩
 ·grind
 ·rw[NG];exact .refl _
structure PG(G:(f:FuncId)→(g:aP)→Option (g.A→Option g.B)):Prop where
 h:HG G
 f:∀d,Wf d→FX G 207 AI ((d,()),())=some ((bV d,()),())
 c:∀d,Wf d→FX G 208 AJ ((d,()),())=some ((fe d,()),())
theorem agy(hp:PG G)(d:an)(h:Wf d):FX G 183 KM ((d,()),())=some ((((d.1.length:Nat):Int),(((d.2.length:Nat):Int),(((ft d:Nat):Int),(fe d,())))),()):=by
 have hn:=h.nv;have hf:=yc h;have ha:al d.1≤d.1.length:=adk;refine av (hp.h _ _ rfl) aeS ?_;refine aa (Wc hp.h d.1 (by omega)) ?_;refine aa (hp.f d h) (aa (hp.c d h) ?_);have e:IntKind.wrap .i64 ((((bV d).length:Nat):Int)+((al d.1:Nat):Int))=((ft d:Nat):Int):=by rw[wrap_small (by omega) (by omega)];rfl
 exact congrArg (fun n:Int=>some ((((d.1.length:Nat):Int),(((d.2.length:Nat):Int),(n,(fe d,())))),())) e
theorem agz(hp:PG G)(d:an)(h:Wf d):FX G 144 KI ((d,()),())=some ((bH d,()),()):=by
 have hn:=h.nv;have bw:=h.ne;have hf:=yc h;have ha:al d.1≤d.1.length:=adk;refine av (hp.h _ _ rfl) aeI ?_;refine aa (agy hp d h) (ag rfl ?_);have hr:=lB h (eO h);obtain⟨k,e1,e2⟩:=Ev h hr;have ec:=uA h;have Oq:(nm d (labels d)).length≤d.1.length:=by
  grind [nm,List.length_map,Nat.le_trans,List.length_filter_le]
 have hft:ft d≤80+d.1.length:=by omega
 refine congrArg (fun n:Int=>some ((n,()),())) ?_;show IntKind.wrap .i64 (fe d-IntKind.wrap .i64 (Int.tdiv (IntKind.wrap .i64 ((IntKind.wrap .i64 (((d.1.length:Nat):Int)-((d.2.length:Nat):Int)))+((ft d:Nat):Int))) 2))=bH d
 grind [wrap_small,ft,nm,labels,Int.mul_tdiv_cancel_left]
theorem YV(hp:PG G):sX G:=fun d h=>by refine av (hp.h _ _ rfl) aer ?_;refine aa (agz hp d h) ?_;rfl
end Go.Vs
