/- What the program computes of -/
import Derived.Test.YtoleelddkocpkaaGreatEuler
set_option linter.unusedVariables false
set_option linter.unusedSimpArgs false
namespace Go.Vs
open Go.Proofs
variable {G:(f:FuncId)→(g:aN)→Option (g.A→Option g.B)}
theorem NG(w:ai)(r:List ai)(x:ID):aR (w::r) x=if w.1=x then some w else aR r x:=by unfold aR;rw[List.find?_cons];by_cases h:w.1=x<;>simp[h]
theorem Wc(hG:HG G)(l:List ai)(x:ID)(hl:l.length≤1073741824):FX G 136215 lA ((l,x,()),())=some (rG zV (aR l x),()):=by
 refine av (hG _ _ rfl) U4 ?_;have loop:∀(n i:Nat),i+n=l.length→LX G 136215 lA Tryz.f215 nj (aK Tryz.prog 215 0) ((l,(((l.length:Nat):Int),((i:Int),()))),(((x,()),(((0:Int),((0:Int),(([]:List ab),(e0,((0:Int),()))))),())),()))=some (rG zV (aR (l.drop i) x),()):=by
  intro n
  induction n with
  |zero =>intro i hi;refine ar DS ?_;refine af (decide_eq_false (show ¬((i:Int)<((l.length:Nat):Int)) by omega)) ?_;rw[List.drop_eq_nil_of_le (by omega)];rfl
  |succ n ih =>
   intro i hi;have aO:i<l.length:=by omega
   have amu:FX G 135 Dk ((l[i],()),())=some ((l[i].1,()),()):=av (hG _ _ rfl) aah rfl;refine ar DS ?_;refine ae (aT aO) (aa (aA (abn aO)) ?_);refine aa amu ?_;rw[List.drop_eq_getElem_cons aO,NG];by_cases he:l[i].1=x
   ·rw[if_pos he];exact ae ((lH l[i].1 x).trans (decide_eq_true he)) rfl
   ·rw[if_neg he];refine af ((lH l[i].1 x).trans (decide_eq_false he)) ?_;have:=ih (i+1) (by omega);rw[←aD aO hl]at this;exact this
 have:=loop l.length 0 (by omega);rw[List.drop_zero]at this;exact this
theorem agt(hG:HG G)(d:ak)(x:ID)(hs:Sm d):FX G 192 Kz ((d,x,()),())=some (rG zV (bp d x),()):=by
 have hv:=hs.v;refine av (hG _ _ rfl) aeM ?_;refine aa (Wc hG d.1 x (by omega)) ?_;unfold bp
 cases hf:aR d.1 x with
 |none=>exact aa (ab8 (hG _ _ rfl) [] (by simp)) rfl
 |some v=>exact aa (ab8 (hG _ _ rfl) v.2.1 (hs.r v (eO hf))) rfl
theorem We(w:ai)(r:List ai)(x:ab):EY (w::r) x=if x∈w.2.1 then some w.1 else EY r x:=by unfold EY;rw[List.find?_cons];by_cases h:x∈w.2.1<;>simp[h]
theorem aaF(hG:HG G)(d:ak)(x:ab)(hs:Sm d):FX G 216 xk ((d,x,()),())=some (rG zI (cd d x),()):=by
 have hv:=hs.v;refine av (hG _ _ rfl) aeZ ?_;have loop:∀(n i:Nat),i+n=d.1.length→LX G 216 xk Tryz.f216 xC (aK Tryz.prog 216 0) ((d.1,(((d.1.length:Nat):Int),((i:Int),()))),(((x,()),((zI,()),())),()))=some (rG zI (EY (d.1.drop i) x),()):=by
  intro n
  induction n with
  |zero =>intro i hi;refine ar OR ?_;refine af (decide_eq_false (show ¬((i:Int)<((d.1.length:Nat):Int)) by omega)) ?_;rw[List.drop_eq_nil_of_le (by omega)];rfl
  |succ n ih =>
   intro i hi;have aO:i<d.1.length:=by omega
   refine ar OR ?_;refine ae (aT aO) (aa (aA (abn aO)) ?_);refine aa (G3 hG d.1[i].2.1 x (by have:=hs.r _ (ac8 aO);omega)) ?_;rw[List.drop_eq_getElem_cons aO,We];by_cases he:x∈d.1[i].2.1
   ·rw[if_pos he];exact ae (decide_eq_true he) rfl
   ·rw[if_neg he];refine af (decide_eq_false he) ?_;have:=ih (i+1) (by omega);rw[←aD aO (by omega)]at this;exact this
 have:=loop d.1.length 0 (by omega);rw[List.drop_zero]at this;exact this
def R6(x:ab):List ax→Int→Int
 |[],_ => -1
 |g::r,i=>if g.1=x then i else R6 x r (i+1)
theorem LJ(x:ab):∀(l:List ax) (i:Nat),(R6 x l i = -1∧ia l x=none)∨∃k g,R6 x l (i:Int)=((i+k:Nat):Int)∧l[k]? = some g∧ia l x=some g.2
 |[],i=>.inl ⟨rfl,rfl⟩
 |g::r,i=>by
  rw[R6,q9];by_cases h:g.1=x
  ·rw[if_pos h,if_pos h];exact .inr ⟨0,g,by simp,by simp,rfl⟩
  ·rw[if_neg h,if_neg h];have e:(i:Int)+1=((i+1:Nat):Int):=by omega
   rw[e];rcases LJ x r (i+1) with⟨h1,h2⟩|⟨k,q,h1,h2,h3⟩
   ·simp_all
   ·exact .inr ⟨k+1,q,by omega,by simpa using h2,h3⟩
theorem Wg(hG:HG G)(l:List ax)(x:ab)(hl:l.length≤1073741824):FX G 232230 jW ((l,()),((x,()),()))=some ((R6 x l 0,()),((x,()),())):=by
 refine av (hG _ _ rfl) U6 ?_;have loop:∀(n i:Nat),i+n=l.length→LX G 232230 jW Tryz.f230 kF (aK Tryz.prog 230 0) ((l,(((l.length:Nat):Int),((i:Int),()))),(((x,()),()),()))=some ((R6 x (l.drop i) i,()),((x,()),())):=by
  intro n
  induction n with
  |zero =>intro i hi;refine ar DU ?_;refine af (decide_eq_false (show ¬((i:Int)<((l.length:Nat):Int)) by omega)) ?_;rw[List.drop_eq_nil_of_le (by omega)];rfl
  |succ n ih =>
   intro i hi;have aO:i<l.length:=by omega
   have amv:FX G 231 KE ((l[i],()),((x.1.1,(x.1.2,(x.2,()))),()))=some (((((l[i].1.1.1==x.1.1)&&(l[i].1.1.2==x.1.2))&&(l[i].1.2==x.2)),()),((x.1.1,(x.1.2,(x.2,()))),())) :=av (hG _ _ rfl) ae4 rfl;refine ar DU ?_;refine ae (aT aO) (aa (aA (abn aO)) ?_);refine aa amv ?_;rw[List.drop_eq_getElem_cons aO,R6];by_cases he:l[i].1=x
   ·rw[if_pos he];exact ae ((lJ l[i].1 x).trans (decide_eq_true he)) rfl
   ·rw[if_neg he];refine af ((lJ l[i].1 x).trans (decide_eq_false he)) ?_;have:=ih (i+1) (by omega);have e:=aD aO hl;show LX G 232230 jW Tryz.f230 kF (aK Tryz.prog 230 0) ((l,(((l.length:Nat):Int),(IntKind.wrap .i64 ((i:Int)+1),()))),(((x,()),()),()))=some ((R6 x (l.drop (i+1)) ((i+1:Nat):Int),()),((x,()),()))
    grind
 have:=loop l.length 0 (by omega);rw[List.drop_zero]at this;exact this
theorem agu(hG:HG G)(l:List ax)(x:ab)(hl:l.length≤1073741824):FX G 217 KC ((l,x,()),())=some (rG zD (ia l x),()):=by
 refine av (hG _ _ rfl) ae0 ?_;refine aa (Wg hG l x hl) ?_;rcases LJ x l 0 with⟨h1,h2⟩|⟨k,g,h1,h2,h3⟩
 ·have h1:R6 x l 0 = -1:=h1;rw[h2];exact ae (decide_eq_true (show R6 x l 0<0 by omega)) rfl
 ·have h1:R6 x l 0=(k:Int):=by simp_all
  rw[h3];refine af (decide_eq_false (show ¬R6 x l 0<0 by omega)) ?_;refine aa (show aS l (R6 x l 0)=some g by grind [aA]) ?_;rfl
theorem agv(hG:HG G)(s:StateT)(x:ab)(hs:Sm s.1)(hg:s.2.length≤50000000):FX G 193 AM ((s,x,()),())=some ((resolve s x,()),()):=by
 refine av (hG _ _ rfl) aeN ?_;have hw:IntKind.wrap .i64 (((s.2.length:Nat):Int)+1)=((s.2.length+1:Nat):Int):=by grind [wrap_small]
 have loop:∀(n i:Nat) (y:ab),i+n=s.2.length+1→LX G 193 AM Tryz.f193 xw (aK Tryz.prog 193 0) (((IntKind.wrap .i64 (((s.2.length:Nat):Int)+1)),((i:Int),())),(((s,()),((y,()),((zD,()),()))),()))=some ((res s.1 s.2 n y,()),()):=by
  intro n
  induction n with
  |zero =>intro i y hi;refine ar ON ?_;exact af (decide_eq_false (show ¬((i:Int)<IntKind.wrap .i64 (((s.2.length:Nat):Int)+1)) by rw[hw];omega)) rfl
  |succ n ih =>
   intro i y hi;refine ar ON ?_;refine ae (decide_eq_true (show((i:Int)<IntKind.wrap .i64 (((s.2.length:Nat):Int)+1)) by rw[hw];omega)) ?_;refine aa (aaF hG s.1 y hs) ?_;rw[res];have h1:(rG zI (cd s.1 y)).2.1=(cd s.1 y).isSome:=iZ _ _
   cases ha:(cd s.1 y).isSome
   ·rw[if_neg (by simp)];refine af (h1.trans ha) ?_;refine aa (agu hG s.2 y (by omega)) ?_
    cases hf:ia s.2 y with
    |none=>rfl
    |some z =>
     refine af rfl ?_;have:=ih (i+1) z (by omega);have e:IntKind.wrap .i64 ((i:Int)+1)=((i+1:Nat):Int):=by grind [wrap_small]
     rw[←e]at this;exact this
   ·rw[if_pos rfl];exact ae (h1.trans ha) rfl
 exact loop (s.2.length+1) 0 x (by omega)
theorem agw(hG:HG G)(s:StateT)(c:rC)(hs:Sm s.1)(hg:s.2.length≤50000000):FX G 157 Kw ((s,c,()),())=some (bA s c,()):=by
 refine av (hG _ _ rfl) aey ?_;refine aa (agt hG s.1 c.1 hs) ?_;unfold bA
 cases hf:bp s.1 c.1 with
 |none=>rfl
 |some v =>
  refine af rfl ?_;refine aa (agv hG s c.2 hs hg) ?_;refine aa (G3 hG v.2.1 (resolve s c.2) (by have:=hs.r v (eO hf);omega)) ?_;show _=some (((c.1,xV s c v),((0:Int),())),());unfold xV;by_cases hm:resolve s c.2∈v.2.1
  ·simp_all
  ·rw[if_neg hm];exact bw (decide_eq_false hm) rfl
def rj(G:(f:FuncId)→(g:aN)→Option (g.A→Option g.B)):Prop:=∀d,Wf d→FX G 96 AK ((d,()),())=some ((decide (bP d=0),()),())
theorem Pr{l:List ai}{e:List ag}{c:rC}{v:ai}(hs:b7 l)(hf:aR l c.1=some v)(x:ab):l.set (bT l c.1) (v.1,(nM v.2.1 c.2 x,v.2.2))=(bU (l,e) c x).1:=by
 grind [Nw,dm,iP,eO,bU,Vs.cj,kN]
theorem Ey{d:ak}(h:Wf d):qO d.1 d.2=true:=by unfold qO;have h1:=h.nv;have h2:=h.ne;simp only[Bool.and_eq_true,decide_eq_true_eq,List.all_eq_true];exact⟨by omega,by omega,fun v hv=>by have:=h.tc v hv;omega⟩
theorem YN(hG:HG G)(hp:rj G)(o:bq):jw G o:=by
 intro s h hm SJ;have My:=h.d.nv;have bz:=h.d.ne;have hn:=h.n;have YJ:=h.d.small;have bL:=VJ hm;have start:∀(e:Int) (w:aW),bF 114 qR Tryz.f114 (FX G) (LX G 114 qR Tryz.f114) ((o,()),(aP s,()))=some ((e,()),(w,()))→FX G 114 qR ((o,()),(aP s,()))=some ((e,()),(w,())):=fun e w a =>av (hG _ _ rfl) a rfl;have f110:=aay hG (aP s) (ba o) h.d.se (by show s.1.2.length≤_;omega);unfold ou
 cases hf:(aZ s.1.2 (ba o)).isSome with
 |true =>have e1:vu (aP s) (ba o)=(12,aP s):=if_pos hf;rw[e1]at f110;refine⟨12,aP s,start _ _ ((abJ).trans (ae (Ey h.d) (aa f110 (ae rfl rfl)))),?_⟩;rw[if_pos (show(hM s.1 (ba o)).isSome=true from hf)];rfl
 |false =>
 rw[if_neg (show ¬(hM s.1 (ba o)).isSome=true by show ¬(aZ s.1.2 (ba o)).isSome=true;rw[hf];simp)];by_cases h40:40≤s.1.2.length
 ·have e1:vu (aP s) (ba o)=(3,aP s):=(if_neg (show ¬(aZ s.1.2 (ba o)).isSome=true by rw[hf];simp)).trans (if_pos h40);rw[e1]at f110;refine⟨3,aP s,start _ _ ((abJ).trans (ae (Ey h.d) (aa f110 (ae rfl rfl)))),?_⟩;rw[if_pos h40];rfl
 rw[if_neg h40];obtain⟨E,hE⟩:∃E,E=dH (ba o,(e0,0)) s.1.2:=⟨_,rfl⟩;have e1:vu (aP s) (ba o)=(0,(s.1.1,(E,(s.2,())))):=by rw[hE];exact(if_neg (show ¬(aZ s.1.2 (ba o)).isSome=true by rw[hf];simp)).trans (if_neg h40)
 rw[e1]at f110;obtain⟨x,hx⟩:∃x:ab,x=(ba o,0):=⟨_,rfl⟩;obtain⟨y,hy⟩:∃y:ab,y=(ba o,1):=⟨_,rfl⟩;have f111:FX G 156 De ((ba o,()),())=some ((x,y,()),()):=by rw[hx,hy];exact av (hG _ _ rfl) aag rfl
 have f112:=fun c:rC=>agw hG s c h.d.sm (by omega);have go:∀(e:Int) (w:aW),LX G 114 qR Tryz.f114 ni (aK Tryz.prog 114 0) (((2:Int),((0:Int),())),(((s.1.1,(E,(s.2,()))),((s,()),((x,()),()))),([x,y],([oA o,oB o],()))))=some ((e,()),(w,()))→FX G 114 qR ((o,()),(aP s,()))=some ((e,()),(w,())):=fun e w a =>start _ _ ((abJ).trans (ae (Ey h.d) (aa f110 (af rfl (aa f111 a)))));by_cases hA:(bA s (oA o)).2.1=0
 case neg =>
  rw[if_pos hA];have amw:bA s (oA o)=(zC,(13,())):=by
   unfold bA at hA ⊢
   grind
  refine⟨13,(s.1.1,(E,(s.2,()))),go _ _ ?_,rfl⟩;refine ar zt ?_;refine ae rfl (ae rfl (aa (a:=oA o) rfl (aa (f112 (oA o)) ?_)));rw[amw];rfl
 rw[if_neg (fun k=>k hA)];obtain⟨va,ca⟩:=rf hA;obtain⟨cA,hcA⟩:∃c:rC,c=(bA s (oA o)).1:=⟨_,rfl⟩;have eA:bA s (oA o)=(cA,(0,())):=by
  grind
 have cAv:(aR s.1.1 cA.1).isSome=true:=by rw[hcA,ca];exact va
 obtain⟨v1,yQ⟩:=acn.1 cAv;have acm:=eO yQ;obtain⟨d1,RP⟩:∃d1:ak,d1=bU (s.1.1,E) cA x:=⟨_,rfl⟩;have amx:s.1.1.set (bT s.1.1 cA.1) (v1.1,(nM v1.2.1 cA.2 x,v1.2.2))=d1.1:=by rw[RP];exact Pr h.d.sv yQ x
 have d1s:b7 d1.1:=by rw[RP];exact h.d.sv.re _ _
 have hl1:=(abu.1 (dm h.d.sv yQ)).1;have aaG:∀v∈d1.1,v.2.1.length≤50000000:=fun v hv=>by
  rw[RP]at hv;obtain⟨w,hw,rfl⟩:=ace.1 (show v∈s.1.1.map (uu cA.1 (nM (bH (s.1.1,E) cA.1) cA.2 x)) from hv);have h1:=h.d.tc w hw;unfold uu
  split
  ·have h2:=AY (bH (s.1.1,E) cA.1) cA.2 x;have h3:(bH (s.1.1,E) cA.1).length≤80:=by rw[←iP yQ,kN (d:=(s.1.1,E)) h.d.sv acm];exact h.d.tc v1 acm
   grind
  ·omega
 have d1l:d1.1.length=s.1.1.length:=by grind
 have aaH:∀(e:Int) (w:aW),LX G 114 qR Tryz.f114 ni (aK Tryz.prog 114 0) (((2:Int),((1:Int),())),(((d1.1,(E,(s.2,()))),((s,()),((x,()),()))),([x,y],([oA o,oB o],()))))=some ((e,()),(w,()))→FX G 114 qR ((o,()),(aP s,()))=some ((e,()),(w,())):=fun e w a=>by
  refine go _ _ ?_;refine ar zt ?_;refine ae rfl (ae rfl (aa (a:=oA o) rfl (aa (f112 (oA o)) ?_)));rw[eA];refine af rfl (af rfl ?_);refine aa (rH hG (s.1.1,(E,(s.2,()))) cA.1 h.d.sv YJ.n) ?_;refine ae (cK (fG _) (aT hl1)) (aa (dm h.d.sv yQ) ?_);refine ae rfl (aa (a:=x) rfl ?_);refine aa (VH hG v1.2.1 cA.2 x (YJ.r v1 acm)) ?_;refine aa (dm h.d.sv yQ) ?_;have key:∀a1:List ai,a1=d1.1→LX G 114 qR Tryz.f114 ni (aK Tryz.prog 114 0) (((2:Int),((1:Int),())),(((a1,(E,(s.2,()))),((s,()),((x,()),()))),([x,y],([oA o,oB o],()))))=some ((e,()),(w,())):=fun a1 SL=>by grind
  exact key _ amx
 by_cases hB:(bA s (oB o)).2.1=0
 case neg =>
  rw[if_pos hB];have amy:bA s (oB o)=(zC,(13,())):=by
   unfold bA at hB ⊢
   cases hv:bp s.1 (oB o).1 with
   |none=>rfl
   |some v=>grind
  refine⟨13,(d1.1,(E,(s.2,()))),aaH _ _ ?_,rfl⟩;refine ar zt ?_;refine ae rfl (ae rfl (aa (a:=oB o) rfl (aa (f112 (oB o)) ?_)));rw[amy];rfl
 rw[if_neg (fun k=>k hB)];obtain⟨vb,cb⟩:=rf hB;obtain⟨cB,hcB⟩:∃c:rC,c=if(bp s.1 (oB o).1).isSome=true∧(oB o).2=(ba o,0) then oB o else(bA s (oB o)).1:=⟨_,rfl⟩
 have eB:bA s (oB o)=((bA s (oB o)).1,(0,())):=by
  grind
 have cB1:cB.1=(oB o).1:=by rw[hcB];split;rfl;exact cb
 have cBv:(aR d1.1 cB.1).isSome=true:=by rw[RP];exact ye _ (by rw[cB1];exact vb)
 obtain⟨v2,BA⟩:=acn.1 cBv;have agy:=eO BA;have u5:=(abu.1 (dm d1s BA)).1;obtain⟨d2,hd2⟩:∃d2:ak,d2=bU d1 cB y:=⟨_,rfl⟩;have YO:d1.1.set (bT d1.1 cB.1) (v2.1,(nM v2.2.1 cB.2 y,v2.2.2))=d2.1:=by grind [Pr]
 have aaI:ib s o=d2:=by rw[hd2,RP,hcA,hcB,hx,hy,hE];rfl
 have hE2:d2.2=E:=by rw[hd2,RP];rfl
 have hwf:Wf d2:=by
  rw[←aaI];unfold ib;have hn0:aZ s.1.2 (ba o)=none:=by simpa using hf
  refine h.d.link bL hn0 h40 (by grind) ?_;rw[←hcB,cB1];exact vb
 have last:∀(e:Int) (w:aW),LX G 114 qR Tryz.f114 ni (aK Tryz.prog 114 0) (((2:Int),((2:Int),())),(((d2.1,(E,(s.2,()))),((s,()),((x,()),()))),([x,y],([oA o,oB o],()))))=some ((e,()),(w,()))→FX G 114 qR ((o,()),(aP s,()))=some ((e,()),(w,())):=fun e w a=>by
  refine aaH _ _ ?_;refine ar zt ?_;refine ae rfl (ae rfl (aa (a:=oB o) rfl (aa (f112 (oB o)) ?_)));rw[eB];have key:∀a2:List ai,a2=d2.1→LX G 114 qR Tryz.f114 ni (aK Tryz.prog 114 0) (((2:Int),((2:Int),())),(((a2,(E,(s.2,()))),((s,()),((x,()),()))),([x,y],([oA o,oB o],()))))=some ((e,()),(w,())):=fun a2 SM=>by grind
  refine af rfl (ae rfl ?_);have rQ:=lJ (oB o).2 x;by_cases hbe:(oB o).2=x
  ·have ecB:cB=oB o:=by grind
   refine ae (rQ.trans (decide_eq_true hbe)) ?_;rw[ecB]at BA u5 YO;refine aa (rH hG (d1.1,(E,(s.2,()))) (oB o).1 d1s (by grind)) ?_;refine ae (cK (fG _) (aT u5)) (aa (dm d1s BA) ?_);refine ae rfl (aa (a:=y) rfl ?_);refine aa (VH hG v2.2.1 (oB o).2 y (aaG v2 agy)) ?_;refine aa (dm d1s BA) ?_;exact key _ YO
  ·have ecB:cB=(bA s (oB o)).1:=by grind
   refine af (rQ.trans (decide_eq_false hbe)) ?_;rw[ecB]at BA u5 YO;refine aa (rH hG (d1.1,(E,(s.2,()))) (bA s (oB o)).1.1 d1s (by grind)) ?_;refine ae (cK (fG _) (aT u5)) (aa (dm d1s BA) ?_);refine ae rfl (aa (a:=y) rfl ?_);refine aa (VH hG v2.2.1 (bA s (oB o)).1.2 y (aaG v2 agy)) ?_;refine aa (dm d1s BA) ?_;exact key _ YO
 have f114:=hp d2 hwf;rw[aaI];have e2:(d2.1,E)=d2:=by rw[←hE2]
 by_cases hg:bP d2=0
 ·rw[if_neg (fun k=>k hg)];refine⟨0,(d2.1,(E,(s.2,()))),last _ _ ?_,?_⟩
  ·refine ar zt ?_;refine af rfl ?_;have key:∀q:ak,q=d2→((FX G 96 AK ((q,()),())).bind fun(GS:((Bool×Unit)×Unit))=>cond (not GS.1.1) (some (((15:Int),()),((d2.1,(E,(s.2,()))),()))) (some (((0:Int),()),((d2.1,(E,(s.2,()))),()))))=some (((0:Int),()),((d2.1,(E,(s.2,()))),())):=fun q hq=>by subst hq;exact aa f114 (bw (decide_eq_true hg) rfl)
   exact key _ e2
  ·show(BX (d2.1,(E,(s.2,()))),((0:Int),()))=((d2,s.2),(0,()));show(((d2.1,E),s.2),((0:Int),()))=((d2,s.2),(0,()));rw[e2]
 ·rw[if_pos hg];refine⟨15,(d2.1,(E,(s.2,()))),last _ _ ?_,rfl⟩;refine ar zt ?_;refine af rfl ?_;have key:∀q:ak,q=d2→((FX G 96 AK ((q,()),())).bind fun(GS:((Bool×Unit)×Unit))=>cond (not GS.1.1) (some (((15:Int),()),((d2.1,(E,(s.2,()))),()))) (some (((0:Int),()),((d2.1,(E,(s.2,()))),()))))=some (((15:Int),()),((d2.1,(E,(s.2,()))),())):=fun q hq=>by subst hq;exact aa f114 (bw (decide_eq_false hg) rfl)
  exact key _ e2
theorem agz(hG:HG G)(row:List ab)(d:ab)(hl:row.length≤100000000):FX G 245 KH ((row,d,()),())=some (K9 (dB row d 1),()):=by
 refine av (hG _ _ rfl) afc ?_;have key:FX G 221 Dl ((row,(d,((1:Int),()))),())=some (K9 (dB row d 1),()):=by
  refine av (hG _ _ rfl) aai ?_;refine aa (Ea (hG _ _ rfl) row d (by omega)) ?_;unfold dB;by_cases hd:d∈row
  ·rw[if_pos hd];obtain⟨k,h1,h2,h3⟩:=eR hd;have aO:=(abu.1 h2).1;refine af (decide_eq_false (show ¬idx d row 0<0 by omega)) ?_;refine af (IJ hd) ?_;have Ni:IntKind.wrap .i64 (idx d row 0+1)=((k+1:Nat):Int):=by grind [wrap_small]
   have zy:(k+1)%row.length<row.length:=adw _ (by omega);have hx:=abn zy;refine aa (show aS row (Int.tmod (IntKind.wrap .i64 (idx d row 0+1)) ((row.length:Nat):Int))=some row[(k+1)%row.length] by rw[Ni,s5];exact aA hx) ?_;rw[h1,Int.toNat_natCast,hx];rfl
  ·rw[if_neg hd];exact ae (decide_eq_true (fh.2 hd)) rfl
 refine aa key ?_;rfl
def LK(x:ab):List ai→Option ab
 |[]=>none
 |v::r=>if x∈v.2.1 then dB v.2.1 x 1 else LK x r
theorem Ps{l:List ai}(h:Rw l){v:ai}{x:ab}(hv:v∈l)(hx:x∈v.2.1):∀r,(∀u∈r,u∈l)→v∈r→LK x r=dB v.2.1 x 1
 |[],_,k=>by cases k
 |u::r,hs,k=>by
  rw[LK];by_cases hu:x∈u.2.1
  ·rw[if_pos hu,h.one hv (hs u List.mem_cons_self) hx hu]
  ·rw[if_neg hu];rcases abz.1 k with e|k
   ·rw[e]at hx;exact absurd hx hu
   ·exact Ps h hv hx r (fun w hw=>hs w (abt _ hw)) k
theorem Hq{x:ab}:∀{l:List ai},x∉an l→LK x l=none
 |[],_=>rfl
 |v::r,h=>by simp_all [eY,List.mem_append,LK,if_neg,Hq]
theorem NH{d:ak}(h:Rw d.1)(x:ab):LK x d.1=kj d x:=by
 by_cases hx:x∈an d.1
 ·obtain⟨v,hv,oS⟩:=aU.1 hx
  grind [En,Ps]
 grind [Hq,kj,cd,Lo]
theorem agA(hG:HG G)(d:ak)(x:ab)(hs:Sm d)(h:Rw d.1):FX G 240 AR ((d,x,()),())=some (K9 (kj d x),()):=by
 have hv:=hs.v;rw[←NH h x];refine av (hG _ _ rfl) ae9 ?_;have loop:∀(n i:Nat),i+n=d.1.length→LX G 240 AR Tryz.f240 xH (aK Tryz.prog 240 0) ((d.1,(((d.1.length:Nat):Int),((i:Int),()))),(((x,()),((zD,()),())),()))=some (K9 (LK x (d.1.drop i)),()):=by
  intro n
  induction n with
  |zero =>intro i hi;refine ar OZ ?_;refine af (decide_eq_false (show ¬((i:Int)<((d.1.length:Nat):Int)) by omega)) ?_;rw[List.drop_eq_nil_of_le (by omega)];rfl
  |succ n ih =>
   intro i hi;have aO:i<d.1.length:=by omega
   refine ar OZ ?_;refine ae (aT aO) (aa (aA (abn aO)) ?_);refine aa (agz hG d.1[i].2.1 x (by have:=hs.r _ (ac8 aO);omega)) ?_;rw[List.drop_eq_getElem_cons aO,LK];by_cases he:x∈d.1[i].2.1
   ·rw[if_pos he];unfold dB;rw[if_pos he];obtain⟨k,h1,h2,h3⟩:=eR he;have hl:=(abu.1 h2).1;have hm:((idx x d.1[i].2.1 0).toNat+1)%d.1[i].2.1.length<d.1[i].2.1.length:=adw _ (by omega);rw[List.getElem?_eq_getElem hm];rfl
   ·rw[if_neg he];unfold dB;rw[if_neg he];refine af rfl ?_;have:=ih (i+1) (by omega);rw[←aD aO (by omega)]at this;exact this
 have:=loop d.1.length 0 (by omega);rw[List.drop_zero]at this;exact this
theorem at_mem{d:ak}{x:ab}(h:(cd d x).isSome=true):x∈an d.1:=by
 apply Classical.byContradiction
 grind [cd,Lo]
theorem agB(hG:HG G)(d:ak)(x:ab)(h:Wf d):FX G 235 GI ((d,x,()),())=some (K9 (Jn d x),()):=by
 have hs:=h.sm;refine av (hG _ _ rfl) ae7 ?_;refine aa (aaF hG d x hs) ?_;have h1:(rG zI (cd d x)).2.1=(cd d x).isSome:=iZ _ _;unfold Jn
 cases ha:(cd d x).isSome
 ·rw[if_neg (by simp)];exact bw (h1.trans ha) rfl
 ·rw[if_pos rfl];refine bw (h1.trans ha) ?_;refine aa (Lu (hG _ _ rfl) x (h.side (at_mem ha))) ?_;exact aa (agA hG d (aj x) hs h.rw) rfl
theorem agC(hG:HG G)(d:ak)(hs:Sm d):FX G 223 xl ((d,()),())=some ((fi d.2,()),()):=by
 have he:=hs.e;refine av (hG _ _ rfl) ae6 ?_;have loop:∀(n i:Nat) (out:List ab),i+n=d.2.length→out.length=2*i→LX G 223 xl Tryz.f223 xD (aK Tryz.prog 223 0) ((d.2,(((d.2.length:Nat):Int),((i:Int),()))),((),(out,())))=some ((out++fi (d.2.drop i),()),()):=by
  intro n
  induction n with
  |zero =>intro i out hi ho;refine ar OT ?_;refine af (decide_eq_false (show ¬((i:Int)<((d.2.length:Nat):Int)) by omega)) ?_;rw[List.drop_eq_nil_of_le (by omega)];show some ((out,()),())=some ((out++[],()),());simp_all
  |succ n ih =>
   intro i out hi ho;have aO:i<d.2.length:=by omega
   refine ar OT ?_;refine ae (aT aO) (aa (aA (abn aO)) ?_);refine aa (Lu (hG _ _ rfl) (d.2[i].1,0) (.inl rfl)) ?_;refine ae (fits (by show out.length+2≤_;omega)) ?_;have:=ih (i+1) (out++[(d.2[i].1,0),(d.2[i].1,1)]) (by omega) (by simp[ho];omega);rw[List.drop_eq_getElem_cons aO];rw[←aD aO (by omega),List.append_assoc]at this;exact this
 exact loop d.2.length 0 [] (by omega) rfl
theorem Wh(hG:HG G)(l:List ai)(hl:l.length≤50000000):FX G 207205 lB ((l,()),())=some ((((al l:Nat):Int),()),()):=by
 refine av (hG _ _ rfl) U7 ?_;have loop:∀(n i m:Nat),i+n=l.length→m≤i→LX G 207205 lB Tryz.f205 kG (aK Tryz.prog 205 0) (((m:Int),(l,(((l.length:Nat):Int),((i:Int),())))),((),()))=some ((((m+al (l.drop i):Nat):Int),()),()):=by
  intro n
  induction n with
  |zero =>intro i m hi hm;refine ar DV ?_;refine af (decide_eq_false (show ¬((i:Int)<((l.length:Nat):Int)) by omega)) ?_;rw[List.drop_eq_nil_of_le (by omega)];rfl
  |succ n ih =>
   intro i m hi hm;have aO:i<l.length:=by omega
   have amB:FX G 206 KF ((l[i],()),())=some ((l[i].2.1.isEmpty,()),()):=by
    refine av (hG _ _ rfl) ae5 ?_;have:(((l[i].2.1.length:Nat):Int)==0)=l[i].2.1.isEmpty:=by cases l[i].2.1<;>simp;omega
    exact congrArg (fun b:Bool=>some ((b,()),())) this
   refine ar DV ?_;refine ae (aT aO) (aa (aA (abn aO)) ?_);refine aa amB ?_;rw[List.drop_eq_getElem_cons aO];unfold al;rw[List.countP_cons]
   cases hb:l[i].2.1.isEmpty
   ·refine af rfl ?_;have:=ih (i+1) m (by omega) (by omega);rw[←aD aO (by omega)]at this;exact this
   ·refine ae rfl ?_;have:=ih (i+1) (m+1) (by omega) (by omega);rw[←aD aO (by omega),←aD (i:=m) (n:=l.length) (by omega) (by omega)]at this;refine this.trans ?_;refine congrArg (fun q:Nat=>some ((((q:Nat):Int),()),())) ?_
    grind [al]
 have:=loop l.length 0 0 (by omega) (by omega);rw[List.drop_zero,Nat.zero_add]at this;exact this
def Fo(g:List Nat):Prop:=∀(i x:Nat),g[i]? = some x→x≤i
def root(g:List Nat)(i:Nat):Nat :=match g[i]? with
 |some x=>if h:x<i then root g x else i
 |none=>i
termination_by i
theorem eP{g:List Nat}{i x:Nat}(h:g[i]? = some x):root g i=if x<i then root g x else i:=by rw[root,h];simp
theorem uJ{g:List Nat}{i:Nat}(h:g[i]? = none):root g i=i:=by rw[root,h]
theorem Pu(g:List Nat):∀i,root g i≤i:=by
 intro i
 induction i using Nat.strongRecOn with
 |_ i ih =>
  cases h:g[i]? with
  |none=>rw[uJ h];omega
  |some x =>
   rw[eP h]
   grind
theorem LL{g:List Nat}(hf:Fo g):∀i,i<g.length→g[root g i]? = some (root g i):=by
 intro i
 induction i using Nat.strongRecOn with
 |_ i ih =>
  intro hi;have h:=abn hi;rw[eP h]
  split
  ·grind
  ·have:=hf i _ h
   grind
theorem mz{g:List Nat}{i:Nat}(h:g[i]? = some i):root g i=i:=by simp_all [eP,if_neg]
theorem Fo.set{g:List Nat}(hf:Fo g){i y:Nat}(h:y≤i):Fo (g.set i y):=fun j x hj=>by
 rw[List.getElem?_set]at hj
 split at hj
 ·simp_all
 ·exact hf j x hj
theorem NI{g:List Nat}(hf:Fo g){i x y:Nat}(hi:g[i]? = some x)(hx:g[x]? = some y)(aO:x<i):∀j,root (g.set i y) j=root g j:=by
 have hyx:=hf x y hx;have rB:=(abu.1 hi).1;intro j
 induction j using Nat.strongRecOn with
 |_ j ih =>
  by_cases e:j=i
  ·subst e;have h1:(g.set j y)[j]? = some y:=by simp_all
   rw[eP h1,if_pos (by omega),ih y (by omega),eP hi,if_pos aO,eP hx]
   grind [mz]
  ·have h1:(g.set i y)[j]? = g[j]? := by grind
   cases h:g[j]? with
   |none=>grind [uJ]
   |some z =>simp_all [eP]
theorem R7{g:List Nat}{a b:Nat}(ha:g[a]? = some a)(hb:g[b]? = some b):∀j,root (g.set (max a b) (min a b)) j=if root g j=max a b then min a b else root g j:=by
 have hm:g[max a b]? = some (max a b):=by grind
 have hn:g[min a b]? = some (min a b):=by grind
 have hml:=(abu.1 hm).1;have hle:min a b≤max a b:=by omega
 generalize max a b=M at *;generalize min a b=m at *;have aO:∀j,(g.set M m)[j]? = if j=M then some m else g[j]? := fun j=>by
  grind
 intro j
 induction j using Nat.strongRecOn with
 |_ j ih =>
  by_cases ej:j=M
  ·subst ej;have h1:(g.set j m)[j]? = some m:=by simp_all
   rw[eP h1,mz hm,if_pos rfl];by_cases e:m<j
   ·simp_all [if_pos,mz,if_neg]
   grind
  ·have h1:(g.set M m)[j]? = g[j]? := by simp_all
   cases h:g[j]? with
   |none=>simp_all [uJ,if_neg]
   |some z =>
    rw[eP h,eP (h1.trans h)]
    grind
def fI(g:List Nat):List Int:=g.map fun n=>((n:Nat):Int)
theorem Ez(g:List Nat):(fI g).length=g.length:=by simp[fI]
theorem wu{g:List Nat}{i x:Nat}(h:g[i]? = some x):(fI g)[Int.toNat (i:Int)]? = some (x:Int):=by simp[fI,h]
theorem Wi(g:List Nat)(i x:Nat):(fI g).set (Int.toNat (i:Int)) (x:Int)=fI (g.set i x):=by simp[fI,List.map_set]
theorem EA{g:List Nat}{i:Nat}(h:i<g.length):(decide ((0:Int)≤(i:Int))&&decide ((i:Int)<(((fI g).length:Nat):Int)))=true:=by
 grind [Ez,cK,fG,aT]
structure Hr(g g':List Nat):Prop where
 f:Fo g'
 n:g'.length=g.length
 r:∀j,root g' j=root g j
theorem Hr.trans{a b c:List Nat}(h:Hr a b)(k:Hr b c):Hr a c:=⟨k.f,k.n.trans h.n,fun j=>(k.r j).trans (h.r j)⟩
theorem Wj(hG:HG G)(g:List Nat)(i:Nat)(hf:Fo g)(hi:i<g.length):∃g',Hr g g'∧FX G 242 sQ (((i:Int),()),(fI g,()))=some ((((root g i:Nat):Int),()),(fI g',())):=by
 have loop:∀(i:Nat) (g:List Nat),Fo g→i<g.length→∃g',Hr g g'∧LX G 242 sQ Tryz.f242 tZ (aK Tryz.prog 242 0) (((i:Int),()),((),(fI g,())))=some ((((root g i:Nat):Int),()),(fI g',())):=by
  intro i
  induction i using Nat.strongRecOn with
  |_ i ih =>
   intro g hf hi;have h:=abn hi;generalize g[i]=x at h;have hxi:=hf i x h;by_cases hx:x<i
   ·have h2:=abn (show x<g.length by omega);generalize g[x]=y at h2;have hyx:=hf x y h2;have hs:=NI hf h h2 hx;have hf2:Fo (g.set i y):=hf.set (by omega);obtain⟨g',h3,h4⟩:=ih y (by omega) (g.set i y) hf2 (by grind);refine⟨g',⟨h3.f,by rw[h3.n,List.length_set],fun j=>(h3.r j).trans (hs j)⟩,?_⟩;refine ar O0 ?_;refine ae (EA hi) (aa (wu h) ?_);refine ae (show(((x:Nat):Int) != (i:Int))=true by grind) ?_;refine ae (EA hi) (aa (wu h) ?_);refine ae (EA (show x<g.length by omega)) (aa (wu h2) ?_);refine ae (EA hi) (aa (wu h) ?_);have amC:=Wi g i y;have key:∀f:List Int,f=fI (g.set i y)→cond ((decide ((0:Int)≤(i:Int)))&&(decide ((i:Int)<(((List.length f):Nat):Int)))) (((f)[(Int.toNat (i:Int))]?).bind fun(y5:Int)=>LX G 242 sQ Tryz.f242 tZ (aK Tryz.prog 242 0) ((y5,()),((),(f,())))) none=some ((((root g i:Nat):Int),()),(fI g',())):=fun f hf=>by
     subst hf;refine ae (EA (by simp_all)) (aa (wu (x:=y) (by simp_all)) ?_);rw[h4,hs y,eP h,if_pos hx,eP h2];by_cases hy:y<x
     ·rw[if_pos hy]
     ·have:y=x:=by omega
      subst this;rw[if_neg (by omega),mz h2]
    exact key _ amC
   ·have:x=i:=by omega
    subst this;refine⟨g,⟨hf,rfl,fun _=>rfl⟩,?_⟩;refine ar O0 ?_;refine ae (EA hi) (aa (wu h) ?_);rw[mz h];exact af (by simp) rfl
 obtain⟨g',h1,h2⟩:=loop i g hf hi;exact⟨g',h1,av (hG _ _ rfl) afb h2⟩
def EB(a b r:Nat):Nat:=if r=max a b then min a b else r
theorem agD(hG:HG G)(g:List Nat)(i k:Nat)(hf:Fo g)(hi:i<g.length)(hk:k<g.length):∃g',Fo g'∧g'.length=g.length∧(∀j,root g' j=EB (root g i) (root g k) (root g j))∧FX G 241 KG (((i:Int),((k:Int),())),(fI g,()))=some ((),(fI g',())):=by
 obtain⟨g1,h1,e1⟩:=Wj hG g i hf hi;obtain⟨g2,h2,e2⟩:=Wj hG g1 k h1.f (by rw[h1.n];exact hk);rw[h1.r k]at e2;have hs:=h1.trans h2;have ra:g2[root g i]? = some (root g i):=by have:=LL hs.f i (by rw[hs.n];exact hi);rw[hs.r i]at this;exact this
 have rb:g2[root g k]? = some (root g k):=by have:=LL hs.f k (by rw[hs.n];exact hk);rw[hs.r k]at this;exact this
 have hal:=(abu.1 ra).1;have hbl:=(abu.1 rb).1;have hm:max (root g i) (root g k)<g2.length:=by omega
 refine⟨g2.set (max (root g i) (root g k)) (min (root g i) (root g k)),hs.f.set (by omega),by rw[List.length_set,hs.n],fun j=>by rw[R7 ra rb j,hs.r j];rfl,?_⟩;refine av (hG _ _ rfl) afa ?_;refine aa e1 (aa e2 ?_);have em:(max ((root g i:Nat):Int) ((root g k:Nat):Int):Int)=((max (root g i) (root g k):Nat):Int):=by omega
 have en:(min ((root g i:Nat):Int) ((root g k:Nat):Int):Int)=((min (root g i) (root g k):Nat):Int):=by omega
 have key:∀m n:Int,m=((max (root g i) (root g k):Nat):Int)→n=((min (root g i) (root g k):Nat):Int)→cond ((decide ((0:Int)≤m))&&(decide (m<(((List.length (fI g2)):Nat):Int)))) (((fI g2)[(Int.toNat m)]?).bind fun(y3:Int)=>(some ((),((List.set (fI g2) (Int.toNat m) n),())):Option (Unit×((List Int)×Unit)))) none=some ((),(fI (g2.set (max (root g i) (root g k)) (min (root g i) (root g k))),())):=fun m n ZE Qj=>by subst ZE Qj;refine ae (EA hm) (aa (wu (abn hm)) ?_);rw[Wi]
 exact key _ _ em en
theorem EC{α:Type}(x:ab)(es:List (ab×α)):r9 bg x es=es.findIdx? fun e=>decide (e.1=x):=by
 show List.findIdx? (fun e:ab×α=>((x.1.1==e.1.1.1)&&(x.1.2==e.1.1.2))&&(x.2==e.1.2)) es=_
 grind
def fz{β α:Type}[DecidableEq β](x:β):List (β×α)→Option α
 |[]=>none
 |e::r=>if e.1=x then some e.2 else fz x r
theorem NJ{β α:Type}[DecidableEq β](x:β):∀es:List (β×α),((es.findIdx? fun e=>decide (e.1=x)).bind fun i=>(es[i]?).map (·.2))=fz x es
 |[]=>rfl
 |e::r=>by
  have ih:=NJ x r;rw[List.findIdx?_cons,fz];by_cases h:e.1=x
  ·simp_all
  ·rw[if_neg (by simpa using h),if_neg h,←ih]
   cases r.findIdx? fun e=>decide (e.1=x)<;>simp
theorem NK{α:Type}(x:ab)(es:List (ab×α)):fJ bg x es=fz x es:=by have:=NJ x es;rw[←EC]at this;exact this
theorem LM{α:Type}{x:ab}(v:α){es:List (ab×α)}(h:x∉es.map (·.1)):jK bg x v es=es++[(x,v)]:=by
 have e:r9 bg x es=none:=by rw[EC,List.findIdx?_eq_none_iff];intro q hq;exact decide_eq_false fun k=>h (ace.2 ⟨q,hq,k⟩)
 unfold jK
 split
 ·rename_i i k;rw[e]at k;cases k
 ·rfl
theorem LN{β α:Type}[DecidableEq β]{x:β}{v:α}:∀{es:List (β×α)},(es.map (·.1)).Nodup→(x,v)∈es→fz x es=some v
 |[],_,h=>by cases h
 |e::r,hn,h=>by
  simp only[List.map_cons,List.nodup_cons]at hn;rw[fz];rcases abz.1 h with e1|h
  ·grind
  ·rw[if_neg (fun k=>hn.1 (by simp_all))];exact LN hn.2 h
def iR:List ai→Nat→List (ab×Int)
 |[],_=>[]
 |v::r,i=>v.2.1.map (fun x=>(x,(i:Int)))++iR r (i+1)
theorem zU:∀(l:List ai) (i:Nat),(iR l i).map (·.1)=an l
 |[],_=>rfl
 |v::r,i=>by
  have e:(v.2.1.map fun x=>(x,(i:Int))).map (·.1)=v.2.1:=by rw[List.map_map];exact List.map_id _
  rw[iR,eY,List.map_append,zU r,e]
theorem LO:∀(a b:List ai) (i:Nat),iR (a++b) i=iR a i++iR b (i+a.length)
 |[],b,i=>rfl
 |v::r,b,i=>by rw[List.cons_append,iR,iR,LO r b,List.append_assoc];congr 3;simp;omega
theorem LP{x:ab}{a:Int}:∀{l:List ai} {i:Nat},(x,a)∈iR l i→∃k v,l[k]? = some v∧a=((i+k:Nat):Int)∧x∈v.2.1
 |[],i,h=>by cases h
 |v::r,i,h=>by
  rw[iR]at h;rcases abX.1 h with h|h
  ·grind
  ·obtain⟨k,u,h1,h2,h3⟩:=LP h;exact⟨k+1,u,by simpa using h1,by omega,h3⟩
theorem Pv{x:ab}:∀{l:List ai} {i k:Nat} {v:ai},l[k]? = some v→x∈v.2.1→(x,((i+k:Nat):Int))∈iR l i
 |v::r,i,0,u,h,hx=>by simp at h;subst h;rw[iR];exact abG _ (ace.2 ⟨x,hx,rfl⟩)
 |v::r,i,k+1,u,h,hx=>by
  rw[iR];refine abA _ ?_;have:=Pv (i:=i+1) (k:=k) (by simpa using h) hx
  rwa [show i+1+k=i+(k+1) by omega]at this
theorem Wl(i:Nat):fI (List.range i)++[(i:Int)]=fI (List.range (i+1)):=by rw[List.range_succ];simp[fI]
section
variable {d:ak} {y:iD.B}
theorem YP(h:Wf d){i:Nat}(hi:i<d.1.length){f:List Int}{nn:Int} (next:LX G 236 iD Tryz.f236 tY (aK Tryz.prog 236 0) ((d.1,(nn,((IntKind.wrap .i64 ((i:Int)+1)),()))),((),(f,(iR (d.1.take (i+1)) 0,()))))=some y):∀(n j:Nat) (es:List (ab×Int)),j+n=d.1[i].2.1.length→es=iR (d.1.take i) 0++(d.1[i].2.1.take j).map (fun x=>(x,(i:Int))) → LX G 236 iD Tryz.f236 xF (aK Tryz.prog 236 1) (((i:Int),(d.1,(nn,((i:Int),(d.1[i].2.1,(((d.1[i].2.1.length:Nat):Int),((j:Int),()))))))),((),(f,(es,()))))=some y:=by
 have hr:=h.tc d.1[i] (ac8 hi);have et:d.1.take (i+1)=d.1.take i++[d.1[i]]:=(List.take_append_getElem hi).symm;have ev:iR (d.1.take (i+1)) 0=iR (d.1.take i) 0++d.1[i].2.1.map (fun x=>(x,(i:Int))):=by
  rw[et,LO];have:(d.1.take i).length=i:=by rw[List.length_take];omega
  rw[this,Nat.zero_add];congr 1;show d.1[i].2.1.map (fun x=>(x,(i:Int)))++[]=_;rw[List.append_nil]
 have nd:(an (d.1.take i)++d.1[i].2.1).Nodup:=by
  have h1:=h.rw.n;rw[←List.take_append_drop (i+1) d.1,et,kM,kM]at h1;have e2:an [d.1[i]]=d.1[i].2.1:=by rw[eY];exact List.append_nil _
  rw[e2]at h1;exact(adk.1 h1).1
 intro n
 induction n with
 |zero =>intro j es hj he;refine ar OV ?_;refine af (decide_eq_false (show ¬((j:Int)<((d.1[i].2.1.length:Nat):Int)) by omega)) ?_;have e:d.1[i].2.1.take j=d.1[i].2.1:=List.take_of_length_le (by omega);rw[e,←ev]at he;subst he;exact next
 |succ n ih =>
  intro j es hj he;have aO:j<d.1[i].2.1.length:=by omega
  refine ar OV ?_;refine ae (aT aO) (aa (aA (abn aO)) ?_);have Cu:d.1[i].2.1[j]∉es.map (·.1):=by
   have e3:((d.1[i].2.1.take j).map fun x=>(x,(i:Int))).map (·.1)=d.1[i].2.1.take j:=by rw[List.map_map];exact List.map_id _
   rw[he,List.map_append,zU,e3,List.mem_append];rintro(k|k)
   ·exact(adk.1 nd).2.2 _ k _ (ac8 aO) rfl
   ·obtain⟨q,hq,he⟩:=adA k;have hq1:q<j:=by rw[List.length_take]at hq;omega
    rw[List.getElem_take]at he;have:=(List.getElem_inj (adk.1 nd).2.1).1 he;omega
  have:=ih (j+1) (jK bg d.1[i].2.1[j] (i:Int) es) (by omega) (by rw[LM _ Cu,he,←List.take_append_getElem aO,List.map_append,List.append_assoc];rfl);rw[←aD aO (by omega)]at this;exact this
theorem YQ(h:Wf d) (next:LX G 236 iD Tryz.f236 qS (aK Tryz.prog 236 2) ((iR d.1 0,()),((),(fI (List.range d.1.length),((none,iR d.1 0),()))))=some y):∀(n i:Nat),i+n=d.1.length → LX G 236 iD Tryz.f236 tY (aK Tryz.prog 236 0) ((d.1,(((d.1.length:Nat):Int),((i:Int),()))),((),(fI (List.range i),(iR (d.1.take i) 0,()))))=some y:=by
 have hn:=h.nv;intro n
 induction n with
 |zero =>
  intro i hi;have e:i=d.1.length:=by omega
  subst e;refine ar OU ?_;refine af (decide_eq_false (show ¬(((d.1.length:Nat):Int)<((d.1.length:Nat):Int)) by omega)) ?_;rw[List.take_length];exact next
 |succ n ih =>
  intro i hi;have aO:i<d.1.length:=by omega
  refine ar OU ?_;refine ae (aT aO) (aa (aA (abn aO)) ?_);refine ae (fits (by grind [fI,List.range,Ez])) ?_;have nx:=ih (i+1) (by omega);rw[←aD aO (by omega),←Wl]at nx;exact YP (G:=G) h aO nx d.1[i].2.1.length 0 _ (by omega) (by simp)
end
end Go.Vs
namespace Go.Vs
open Go.Proofs
variable {G:(f:FuncId)→(g:aN)→Option (g.A→Option g.B)}
theorem NL(a b:Nat):EB a b a=min a b∧EB a b b=min a b:=by
 grind [EB]
structure FoI(d:ak)(rem:List (ab×Int))(g:List Nat):Prop where
 f:Fo g
 n:g.length=d.1.length
 c:∀i,i<d.1.length→cq d (cQ d i) (cQ d (root g i))
 p:∀(z:ab) (i k:Nat),(z,(i:Int))∈iR d.1 0→(aj z,(k:Int))∈iR d.1 0→(z,(i:Int))∉rem→root g i=root g k
theorem yh{d:ak}(h:Wf d){z:ab}{a:Int}(hm:(z,a)∈iR d.1 0):∃i:Nat,i<d.1.length∧a=(i:Int)∧z∈an d.1∧cd d z=some (cQ d i):=by obtain⟨k,v,h1,h2,h3⟩:=LP hm;rw[Nat.zero_add]at h2;have hv:=acw h1;refine⟨k,(abu.1 h1).1,h2,aU.2 ⟨v,hv,h3⟩,?_⟩;rw[ri h1];exact eZ h.rw hv h3
theorem NM{d:ak}(h:Wf d){z:ab}(hz:z∈an d.1):∃i:Nat,(z,(i:Int))∈iR d.1 0:=by
 obtain⟨v,hv,hx⟩:=aU.1 hz;obtain⟨k,hk⟩:=adq hv;have:=Pv (i:=0) hk hx
 grind
theorem Pw{d:ak}(h:Wf d){z:ab}{a:Int}(hm:(z,a)∈iR d.1 0):fJ bg z (iR d.1 0)=some a:=by rw[NK];refine LN ?_ hm;rw[zU];exact h.rw.n
theorem FoI.same{d:ak}(h:Wf d){g:List Nat}(hg:FoI d [] g){a b:ID}(k:cq d a b):∀i j,i<d.1.length→j<d.1.length→cQ d i=a→cQ d j=b→root g i=root g j:=by
 induction k with
 |refl=>intro i j hi hj h1 h2;rw[j9 h.sv hi hj (h1.trans h2.symm)]
 |tail _ s ih =>
  intro i j hi hj h1 h2;obtain⟨z,hz,s1,s2⟩:=s;obtain⟨m,hm⟩:=NM h hz;obtain⟨q,hq⟩:=NM h (h.other hz);obtain⟨m',m1,m2,_,m3⟩:=yh h hm;obtain⟨q',q1,q2,_,q3⟩:=yh h hq;have em:m'=m:=by omega
  have eq:q'=q:=by omega
  subst em;subst eq;rw[s1]at m3;rw[s2]at q3;have r1:=ih i m' hi m1 h1 (ac7 m3).symm;have r2:=hg.p z m' q' hm hq (by simp);have ej:q'=j:=j9 h.sv q1 hj ((ac7 q3).symm.trans h2.symm);simp_all
theorem FoI.can{d:ak}(h:Wf d){g:List Nat}(hg:FoI d [] g):LH d (fI ((List.range d.1.length).map (root g))):=by
 have sD:∀i,i<d.1.length→(fI ((List.range d.1.length).map (root g))).getD i 0=((root g i:Nat):Int):=fun i hi=>by
  grind [fI,List.getD]
 refine⟨⟨by rw[Ez];simp,fun i hi=>⟨root g i,Pu g i,sD i hi,hg.c i hi⟩⟩,fun i hi j hj k=>?_⟩;rw[sD i hi,hg.same h k i j hi hj rfl rfl]
 grind [Pu]
theorem YR(hG:HG G){d:ak}(h:Wf d){g:List Nat}:∀(n i:Nat) (g':List Nat),i+n=d.1.length→Fo g'→g'.length=d.1.length→(∀j,root g' j=root g j) → LX G 236 iD Tryz.f236 xG (aK Tryz.prog 236 3) ((((d.1.length:Nat):Int),((i:Int),())),((),(fI g',(fI ((List.range i).map (root g)),()))))=some ((fI ((List.range d.1.length).map (root g)),()),()):=by
 have My:=h.nv;intro n
 induction n with
 |zero =>
  intro i g' hi h1 h2 h3;have e:i=d.1.length:=by omega
  subst e;refine ar OY ?_;exact af (decide_eq_false (show ¬(((d.1.length:Nat):Int)<((d.1.length:Nat):Int)) by omega)) rfl
 |succ n ih =>
  intro i g' hi h1 h2 h3;have aO:i<d.1.length:=by omega
  obtain⟨g2,s,e⟩:=Wj hG g' i h1 (by omega);refine ar OY ?_;refine ae (aT aO) (aa e ?_);refine ae (fits (by show(fI _).length+1≤_;rw[Ez];simp;omega)) ?_;have:=ih (i+1) g2 (by omega) s.f (by rw[s.n,h2]) (fun j=>(s.r j).trans (h3 j));have e2:fI ((List.range (i+1)).map (root g))=fI ((List.range i).map (root g))++[((root g' i:Nat):Int)]:=by simp_all [List.range_succ,fI]
  rw[e2,←aD aO (by omega)]at this;exact this
theorem YS(hG:HG G){d:ak}(h:Wf d):∀(n:Nat) (rem:List (ab×Int)) (g:List Nat) (o:Option (ab×Int)),rem.length=n→(∀e∈rem,e∈iR d.1 0)→FoI d rem g → LX G 236 iD Tryz.f236 qS (aK Tryz.prog 236 2) ((iR d.1 0,()),((),(fI g,((o,rem),()))))=some ((labels d,()),()):=by
 intro n
 induction n with
 |zero =>
  intro rem g o hn hr hg;have e:rem=[]:=abN hn;subst e;refine ar OX ?_;refine ae rfl ?_;have:=YR (G:=G) hG h (g:=g) d.1.length 0 g (by omega) hg.f hg.n (fun _=>rfl);rw[(hg.can h).uniq h (fa h)]at this;have e2:((fI g).length:Int)=((d.1.length:Nat):Int):=by rw[Ez,hg.n]
  rw[←e2]at this;exact this
 |succ n ih =>
  intro rem g o hn hr hg;refine ar OX ?_;refine af (show rem.isEmpty=false by grind) ?_;refine me (show 0<rem.length by omega) fun j hj=>?_;have hj':j<rem.length:=hj;refine aa (abn hj') ?_;have hm:=hr _ (ac8 hj');generalize he:rem[j]=e at hm;obtain⟨z,a⟩:=e;obtain⟨i,hi,ha,hz,haz⟩:=yh h hm;subst ha;obtain⟨k,hk⟩:=NM h (h.other hz);obtain⟨k',wa,ek,_,hak⟩:=yh h hk;have ek':k'=k:=by omega
  subst ek';refine aa (Lu (hG _ _ rfl) z (h.side hz)) ?_;have sD:fJ bg (aj z) (iR d.1 0)=some (k':Int):=Pw h hk;refine ae (show(fJ bg (aj z) (iR d.1 0)).isSome=true by rw[sD];rfl) ?_;obtain⟨g',h1,h2,h3,h4⟩:=agD hG g i k' hg.f (by rw[hg.n];exact hi) (by rw[hg.n];exact wa);refine aa (a:=((),(fI g',()))) (by
   have:(fJ bg (aj z) (iR d.1 0)).getD (0:Int)=(k':Int):=by rw[sD];rfl
   rw[←this]at h4;exact h4) ?_
  have amD:A5 d (cQ d i) (cQ d k'):=⟨z,hz,haz,hak⟩;have cij:cq d (cQ d (root g i)) (cQ d (root g k')):=((hg.c i hi).symm h).trans (amD.conn.trans (hg.c k' wa));refine ih (rem.eraseIdx j) g' _ (by grind) (fun e he=>hr e (List.mem_of_mem_eraseIdx he)) ⟨h1,h2.trans hg.n,fun q hq=>?_,fun y p q hp hq hy=>?_⟩
  ·rw[h3 q];unfold EB
   split
   ·rename_i e;refine(hg.c q hq).trans ?_;rw[e];rcases Nat.le_total (root g i) (root g k') with hle|hle
    ·rw[Nat.max_eq_right hle,Nat.min_eq_left hle];exact cij.symm h
    simp_all
   ·exact hg.c q hq
  ·rw[h3 p,h3 q];by_cases tS:(y,(p:Int))∈rem
   ·
    have e:(y,(p:Int))=(z,(i:Int)):=by
     apply Classical.byContradiction
     grind [List.mem_eraseIdx_iff_getElem,List.getElem_of_mem]
    have e1:y=z:=congrArg Prod.fst e;have e2:p=i:=by grind
    subst e1;subst e2;have h5:=Pw h hq
    grind [Option.some.inj,NL]
   ·rw[hg.p y p q hp hq tS]
theorem NO(n:Nat):∀i,root (List.range n) i=i:=fun i=>by
 grind [List.range,uJ,List.getElem?_range,List.getElem?_eq_some_iff,Option.some.inj,mz]
theorem agF(hG:HG G)(d:ak)(h:Wf d):FX G 236 iD ((d,()),())=some ((labels d,()),()):=by
 refine av (hG _ _ rfl) ae8 ?_;refine YQ (G:=G) h ?_ d.1.length 0 (by omega);refine YS hG h _ (iR d.1 0) (List.range d.1.length) none rfl (fun _ k=>k) ⟨fun i x hx=>?_,by simp,fun i hi=>?_,fun z i k h1 h2 h3=>absurd h1 h3⟩
 ·grind
 ·rw[NO];exact .refl _
structure PG(G:(f:FuncId)→(g:aN)→Option (g.A→Option g.B)):Prop where
 h:HG G
 f:∀d,Wf d→FX G 207 AP ((d,()),())=some ((bV d,()),())
 c:∀d,Wf d→FX G 208 AQ ((d,()),())=some ((fw d,()),())
theorem agG(hp:PG G)(d:ak)(h:Wf d):FX G 183 KD ((d,()),())=some ((((d.1.length:Nat):Int),(((d.2.length:Nat):Int),(((ft d:Nat):Int),(fw d,())))),()):=by
 have hn:=h.nv;have hf:=yg h;have ha:al d.1≤d.1.length:=adr;refine av (hp.h _ _ rfl) ae1 ?_;refine aa (Wh hp.h d.1 (by omega)) ?_;refine aa (hp.f d h) (aa (hp.c d h) ?_);have e:IntKind.wrap .i64 ((((bV d).length:Nat):Int)+((al d.1:Nat):Int))=((ft d:Nat):Int):=by rw[wrap_small (by omega) (by omega)];rfl
 exact congrArg (fun n:Int=>some ((((d.1.length:Nat):Int),(((d.2.length:Nat):Int),(n,(fw d,())))),())) e
theorem agH(hp:PG G)(d:ak)(h:Wf d):FX G 144 KA ((d,()),())=some ((bP d,()),()):=by
 have hn:=h.nv;have bz:=h.ne;have hf:=yg h;have ha:al d.1≤d.1.length:=adr;refine av (hp.h _ _ rfl) aeR ?_;refine aa (agG hp d h) (af rfl ?_);have hr:=lP h (fa h);obtain⟨k,e1,e2⟩:=Ex h hr;have ec:=uI h;have Oz:(nE d (labels d)).length≤d.1.length:=by
  grind [nE,List.length_map,Nat.le_trans,List.length_filter_le]
 have hft:ft d≤80+d.1.length:=by omega
 refine congrArg (fun n:Int=>some ((n,()),())) ?_;show IntKind.wrap .i64 (fw d-IntKind.wrap .i64 (Int.tdiv (IntKind.wrap .i64 ((IntKind.wrap .i64 (((d.1.length:Nat):Int)-((d.2.length:Nat):Int)))+((ft d:Nat):Int))) 2))=bP d
 grind [wrap_small,ft,nE,labels,Int.mul_tdiv_cancel_left]
theorem YT(hp:PG G):rj G:=fun d h=>by refine av (hp.h _ _ rfl) aeA ?_;refine aa (agH hp d h) ?_;rfl
end Go.Vs
