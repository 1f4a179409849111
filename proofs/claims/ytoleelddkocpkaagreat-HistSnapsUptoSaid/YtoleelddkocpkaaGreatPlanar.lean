/- What the program computes of -/
import Derived.Test.YtoleelddkocpkaaGreatEuler
set_option linter.unusedVariables false
set_option linter.unusedSimpArgs false
namespace Go.Vs
open Go.Proofs
variable {G:(f:FuncId)→(g:aO)→Option (g.A→Option g.B)}
theorem Pn(w:an)(r:List an)(x:ID):aZ (w::r) x=if w.1=x then some w else aZ r x:=by unfold aZ;rw[List.find?_cons];by_cases h:w.1=x<;>simp[h]
theorem Xr(hG:HG G)(l:List an)(x:ID)(hl:l.length≤1073741824):FX G 136215 lT ((l,x,()),())=some (G2 zV (aZ l x),()):=by
 refine au (hG _ _ rfl) Wg ?_;have loop:∀(n i:Nat),i+n=l.length→LX G 136215 lT Tryz.f215 nY (aE Tryz.prog 215 0) ((l,(((l.length:Nat):Int),((i:Int),()))),(((x,()),(((0:Int),((0:Int),(([]:List ag),(e0,((0:Int),()))))),())),()))=some (G2 zV (aZ (l.drop i) x),()):=by
  intro n
  induction n with
  |zero =>intro i hi;refine ak E6 ?_;refine af (decide_eq_false (show ¬((i:Int)<((l.length:Nat):Int)) by omega)) ?_;rw[List.drop_eq_nil_of_le (by omega)];rfl
  |succ n ih =>
   intro i hi;have aG:i<l.length:=by omega
   have am8:FX G 135 EG ((l[i],()),())=some ((l[i].1,()),()):=au (hG _ _ rfl) aby rfl;refine ak E6 ?_;refine ae (aJ aG) (aa (ai (abf aG)) ?_);refine aa am8 ?_;rw[List.drop_eq_getElem_cons aG,Pn];by_cases he:l[i].1=x
   ·rw[if_pos he];exact ae ((vX l[i].1 x).trans (decide_eq_true he)) rfl
   ·rw[if_neg he];refine af ((vX l[i].1 x).trans (decide_eq_false he)) ?_;have:=ih (i+1) (by omega);rw[←aB aG hl]at this;exact this
 have:=loop l.length 0 (by omega);rw[List.drop_zero]at this;exact this
theorem ahM(hG:HG G)(d:ar)(x:ID)(hs:Sm d):FX G 192 LS ((d,x,()),())=some (G2 zV (cH d x),()):=by
 have hv:=hs.v;refine au (hG _ _ rfl) agd ?_;refine aa (Xr hG d.1 x (by omega)) ?_;unfold cH
 cases hf:aZ d.1 x with
 |none=>exact aa (adv (hG _ _ rfl) [] (by simp)) rfl
 |some v=>exact aa (adv (hG _ _ rfl) v.2.1 (hs.r v (gZ hf))) rfl
theorem Xs(w:an)(r:List an)(x:ag):Gx (w::r) x=if x∈w.2.1 then some w.1 else Gx r x:=by unfold Gx;rw[List.find?_cons];by_cases h:x∈w.2.1<;>simp[h]
theorem abT(hG:HG G)(d:ar)(x:ag)(hs:Sm d):FX G 216 yR ((d,x,()),())=some (G2 zI (dA d x),()):=by
 have hv:=hs.v;refine au (hG _ _ rfl) agr ?_;have loop:∀(n i:Nat),i+n=d.1.length→LX G 216 yR Tryz.f216 zc (aE Tryz.prog 216 0) ((d.1,(((d.1.length:Nat):Int),((i:Int),()))),(((x,()),((zI,()),())),()))=some (G2 zI (Gx (d.1.drop i) x),()):=by
  intro n
  induction n with
  |zero =>intro i hi;refine ak Qq ?_;refine af (decide_eq_false (show ¬((i:Int)<((d.1.length:Nat):Int)) by omega)) ?_;rw[List.drop_eq_nil_of_le (by omega)];rfl
  |succ n ih =>
   intro i hi;have aG:i<d.1.length:=by omega
   refine ak Qq ?_;refine ae (aJ aG) (aa (ai (abf aG)) ?_);refine aa (It hG d.1[i].2.1 x (by have:=hs.r _ (acG aG);omega)) ?_;rw[List.drop_eq_getElem_cons aG,Xs];by_cases he:x∈d.1[i].2.1
   ·rw[if_pos he];exact ae (decide_eq_true he) rfl
   ·rw[if_neg he];refine af (decide_eq_false he) ?_;have:=ih (i+1) (by omega);rw[←aB aG (by omega)]at this;exact this
 have:=loop d.1.length 0 (by omega);rw[List.drop_zero]at this;exact this
def TC(x:ag):List aC→Int→Int
 |[],_ => -1
 |g::r,i=>if g.1=x then i else TC x r (i+1)
theorem M3(x:ag):∀(l:List aC) (i:Nat),(TC x l i = -1∧pf l x=none)∨∃k g,TC x l (i:Int)=((i+k:Nat):Int)∧l[k]? = some g∧pf l x=some g.2
 |[],i=>.inl ⟨rfl,rfl⟩
 |g::r,i=>by
  rw[TC,ss];by_cases h:g.1=x
  ·rw[if_pos h,if_pos h];exact .inr ⟨0,g,by simp,by simp,rfl⟩
  ·rw[if_neg h,if_neg h];have e:(i:Int)+1=((i+1:Nat):Int):=by omega
   rw[e];rcases M3 x r (i+1) with⟨h1,h2⟩|⟨k,q,h1,h2,h3⟩
   ·simp_all
   ·exact .inr ⟨k+1,q,by omega,by simpa using h2,h3⟩
theorem Xt(hG:HG G)(l:List aC)(x:ag)(hl:l.length≤1073741824):FX G 232230 kg ((l,()),((x,()),()))=some ((TC x l 0,()),((x,()),())):=by
 refine au (hG _ _ rfl) Wi ?_;have loop:∀(n i:Nat),i+n=l.length→LX G 232230 kg Tryz.f230 kW (aE Tryz.prog 230 0) ((l,(((l.length:Nat):Int),((i:Int),()))),(((x,()),()),()))=some ((TC x (l.drop i) i,()),((x,()),())):=by
  intro n
  induction n with
  |zero =>intro i hi;refine ak E8 ?_;refine af (decide_eq_false (show ¬((i:Int)<((l.length:Nat):Int)) by omega)) ?_;rw[List.drop_eq_nil_of_le (by omega)];rfl
  |succ n ih =>
   intro i hi;have aG:i<l.length:=by omega
   have am9:FX G 231 LZ ((l[i],()),((x.1.1,(x.1.2,(x.2,()))),()))=some (((((l[i].1.1.1==x.1.1)&&(l[i].1.1.2==x.1.2))&&(l[i].1.2==x.2)),()),((x.1.1,(x.1.2,(x.2,()))),())) :=au (hG _ _ rfl) agw rfl;refine ak E8 ?_;refine ae (aJ aG) (aa (ai (abf aG)) ?_);refine aa am9 ?_;rw[List.drop_eq_getElem_cons aG,TC];by_cases he:l[i].1=x
   ·rw[if_pos he];exact ae ((vY l[i].1 x).trans (decide_eq_true he)) rfl
   ·rw[if_neg he];refine af ((vY l[i].1 x).trans (decide_eq_false he)) ?_;have:=ih (i+1) (by omega);have e:=aB aG hl;show LX G 232230 kg Tryz.f230 kW (aE Tryz.prog 230 0) ((l,(((l.length:Nat):Int),(IntKind.wrap .i64 ((i:Int)+1),()))),(((x,()),()),()))=some ((TC x (l.drop (i+1)) ((i+1:Nat):Int),()),((x,()),()))
    grind
 have:=loop l.length 0 (by omega);rw[List.drop_zero]at this;exact this
theorem ahN(hG:HG G)(l:List aC)(x:ag)(hl:l.length≤1073741824):FX G 217 LW ((l,x,()),())=some (G2 zD (pf l x),()):=by
 refine au (hG _ _ rfl) ags ?_;refine aa (Xt hG l x hl) ?_;rcases M3 x l 0 with⟨h1,h2⟩|⟨k,g,h1,h2,h3⟩
 ·have h1:TC x l 0 = -1:=h1;rw[h2];exact ae (decide_eq_true (show TC x l 0<0 by omega)) rfl
 ·have h1:TC x l 0=(k:Int):=by simp_all
  rw[h3];refine af (decide_eq_false (show ¬TC x l 0<0 by omega)) ?_;refine aa (show aP l (TC x l 0)=some g by grind [ai]) ?_;rfl
theorem ahO(hG:HG G)(s:StateT)(x:ag)(hs:Sm s.1)(hg:s.2.length≤50000000):FX G 193 B6 ((s,x,()),())=some ((resolve s x,()),()):=by
 refine au (hG _ _ rfl) age ?_;have hw:IntKind.wrap .i64 (((s.2.length:Nat):Int)+1)=((s.2.length+1:Nat):Int):=by grind [wrap_small]
 have loop:∀(n i:Nat) (y:ag),i+n=s.2.length+1→LX G 193 B6 Tryz.f193 yV (aE Tryz.prog 193 0) (((IntKind.wrap .i64 (((s.2.length:Nat):Int)+1)),((i:Int),())),(((s,()),((y,()),((zD,()),()))),()))=some ((res s.1 s.2 n y,()),()):=by
  intro n
  induction n with
  |zero =>intro i y hi;refine ak Qm ?_;exact af (decide_eq_false (show ¬((i:Int)<IntKind.wrap .i64 (((s.2.length:Nat):Int)+1)) by rw[hw];omega)) rfl
  |succ n ih =>
   intro i y hi;refine ak Qm ?_;refine ae (decide_eq_true (show((i:Int)<IntKind.wrap .i64 (((s.2.length:Nat):Int)+1)) by rw[hw];omega)) ?_;refine aa (abT hG s.1 y hs) ?_;rw[res];have h1:(G2 zI (dA s.1 y)).2.1=(dA s.1 y).isSome:=Da _ _
   cases ha:(dA s.1 y).isSome
   ·rw[if_neg (by simp)];refine af (h1.trans ha) ?_;refine aa (ahN hG s.2 y (by omega)) ?_
    cases hf:pf s.2 y with
    |none=>rfl
    |some z =>
     refine af rfl ?_;have:=ih (i+1) z (by omega);have e:IntKind.wrap .i64 ((i:Int)+1)=((i+1:Nat):Int):=by grind [wrap_small]
     rw[←e]at this;exact this
   ·rw[if_pos rfl];exact ae (h1.trans ha) rfl
 exact loop (s.2.length+1) 0 x (by omega)
theorem ahP(hG:HG G)(s:StateT)(c:xV)(hs:Sm s.1)(hg:s.2.length≤50000000):FX G 157 LP ((s,c,()),())=some (dn s c,()):=by
 refine au (hG _ _ rfl) afZ ?_;refine aa (ahM hG s.1 c.1 hs) ?_;unfold dn
 cases hf:cH s.1 c.1 with
 |none=>rfl
 |some v =>
  refine af rfl ?_;refine aa (ahO hG s c.2 hs hg) ?_;refine aa (It hG v.2.1 (resolve s c.2) (by have:=hs.r v (gZ hf);omega)) ?_;show _=some (((c.1,J9 s c v),((0:Int),())),());unfold J9;by_cases hm:resolve s c.2∈v.2.1
  ·simp_all
  ·rw[if_neg hm];exact aW (decide_eq_false hm) rfl
def jM(G:(f:FuncId)→(g:aO)→Option (g.A→Option g.B)):Prop:=∀d,Wf d→FX G 96 B4 ((d,()),())=some ((decide (cX d=0),()),())
theorem QT{l:List an}{e:List aj}{c:xV}{v:an}(hs:cg l)(hf:aZ l c.1=some v)(x:ag):l.set (bV l c.1) (v.1,(uk v.2.1 c.2 x,v.2.2))=(cS (l,e) c x).1:=by
 grind [Pb,dF,l9,gZ,cS,Vs.cE,lh]
theorem FO{d:ar}(h:Wf d):rN d.1 d.2=true:=by unfold rN;have h1:=h.nv;have h2:=h.ne;simp only[Bool.and_eq_true,decide_eq_true_eq,List.all_eq_true];exact⟨by omega,by omega,fun v hv=>by have:=h.mo v hv;omega⟩
theorem aad(hG:HG G)(hp:jM G)(o:bP):kq G o:=by
 intro s h hm T9;have ND:=h.d.nv;have bA:=h.d.ne;have hn:=h.n;have ZZ:=h.d.small;have bM:=WU hm;have start:∀(e:Int) (w:aV),bN 114 rP Tryz.f114 (FX G) (LX G 114 rP Tryz.f114) ((o,()),(aQ s,()))=some ((e,()),(w,()))→FX G 114 rP ((o,()),(aQ s,()))=some ((e,()),(w,())):=fun e w a =>au (hG _ _ rfl) a rfl;have f110:=abL hG (aQ s) (bK o) h.d.se (by show s.1.2.length≤_;omega);unfold uo
 cases hf:(ba s.1.2 (bK o)).isSome with
 |true =>have e1:wL (aQ s) (bK o)=(12,aQ s):=if_pos hf;rw[e1]at f110;refine⟨12,aQ s,start _ _ ((ac9).trans (ae (FO h.d) (aa f110 (ae rfl rfl)))),?_⟩;rw[if_pos (show(oF s.1 (bK o)).isSome=true from hf)];rfl
 |false =>
 rw[if_neg (show ¬(oF s.1 (bK o)).isSome=true by show ¬(ba s.1.2 (bK o)).isSome=true;rw[hf];simp)];by_cases h40:40≤s.1.2.length
 ·have e1:wL (aQ s) (bK o)=(3,aQ s):=(if_neg (show ¬(ba s.1.2 (bK o)).isSome=true by rw[hf];simp)).trans (if_pos h40);rw[e1]at f110;refine⟨3,aQ s,start _ _ ((ac9).trans (ae (FO h.d) (aa f110 (ae rfl rfl)))),?_⟩;rw[if_pos h40];rfl
 rw[if_neg h40];obtain⟨E,hE⟩:∃E,E=ib (bK o,(e0,0)) s.1.2:=⟨_,rfl⟩;have e1:wL (aQ s) (bK o)=(0,(s.1.1,(E,(s.2,())))):=by rw[hE];exact(if_neg (show ¬(ba s.1.2 (bK o)).isSome=true by rw[hf];simp)).trans (if_neg h40)
 rw[e1]at f110;obtain⟨x,hx⟩:∃x:ag,x=(bK o,0):=⟨_,rfl⟩;obtain⟨y,hy⟩:∃y:ag,y=(bK o,1):=⟨_,rfl⟩;have f111:FX G 156 EB ((bK o,()),())=some ((x,y,()),()):=by rw[hx,hy];exact au (hG _ _ rfl) abx rfl
 have f112:=fun c:xV=>ahP hG s c h.d.sm (by omega);have go:∀(e:Int) (w:aV),LX G 114 rP Tryz.f114 nX (aE Tryz.prog 114 0) (((2:Int),((0:Int),())),(((s.1.1,(E,(s.2,()))),((s,()),((x,()),()))),([x,y],([oA o,oB o],()))))=some ((e,()),(w,()))→FX G 114 rP ((o,()),(aQ s,()))=some ((e,()),(w,())):=fun e w a =>start _ _ ((ac9).trans (ae (FO h.d) (aa f110 (af rfl (aa f111 a)))));by_cases hA:(dn s (oA o)).2.1=0
 case neg =>
  rw[if_pos hA];have ana:dn s (oA o)=(zC,(13,())):=by
   unfold dn at hA ⊢
   grind
  refine⟨13,(s.1.1,(E,(s.2,()))),go _ _ ?_,rfl⟩;refine ak AY ?_;refine ae rfl (ae rfl (aa (a:=oA o) rfl (aa (f112 (oA o)) ?_)));rw[ana];rfl
 rw[if_neg (fun k=>k hA)];obtain⟨va,ca⟩:=su hA;obtain⟨cA,hcA⟩:∃c:xV,c=(dn s (oA o)).1:=⟨_,rfl⟩;have eA:dn s (oA o)=(cA,(0,())):=by
  grind
 have cAv:(aZ s.1.1 cA.1).isSome=true:=by rw[hcA,ca];exact va
 obtain⟨v1,Ax⟩:=acK.1 cAv;have adJ:=gZ Ax;obtain⟨d1,WX⟩:∃d1:ar,d1=cS (s.1.1,E) cA x:=⟨_,rfl⟩;have anb:s.1.1.set (bV s.1.1 cA.1) (v1.1,(uk v1.2.1 cA.2 x,v1.2.2))=d1.1:=by rw[WX];exact QT h.d.sv Ax x
 have d1s:cg d1.1:=by rw[WX];exact h.d.sv.re _ _
 have hl1:=(abp.1 (dF h.d.sv Ax)).1;have abU:∀v∈d1.1,v.2.1.length≤50000000:=fun v hv=>by
  rw[WX]at hv;obtain⟨w,hw,rfl⟩:=acE.1 (show v∈s.1.1.map (A4 cA.1 (uk (dd (s.1.1,E) cA.1) cA.2 x)) from hv);have h1:=h.d.mo w hw;unfold A4
  split
  ·have h2:=Cg (dd (s.1.1,E) cA.1) cA.2 x;have h3:(dd (s.1.1,E) cA.1).length≤80:=by rw[←l9 Ax,lh (d:=(s.1.1,E)) h.d.sv adJ];exact h.d.mo v1 adJ
   grind
  ·omega
 have d1l:d1.1.length=s.1.1.length:=by grind
 have abV:∀(e:Int) (w:aV),LX G 114 rP Tryz.f114 nX (aE Tryz.prog 114 0) (((2:Int),((1:Int),())),(((d1.1,(E,(s.2,()))),((s,()),((x,()),()))),([x,y],([oA o,oB o],()))))=some ((e,()),(w,()))→FX G 114 rP ((o,()),(aQ s,()))=some ((e,()),(w,())):=fun e w a=>by
  refine go _ _ ?_;refine ak AY ?_;refine ae rfl (ae rfl (aa (a:=oA o) rfl (aa (f112 (oA o)) ?_)));rw[eA];refine af rfl (af rfl ?_);refine aa (sX hG (s.1.1,(E,(s.2,()))) cA.1 h.d.sv ZZ.n) ?_;refine ae (dw (kl _) (aJ hl1)) (aa (dF h.d.sv Ax) ?_);refine ae rfl (aa (a:=x) rfl ?_);refine aa (WS hG v1.2.1 cA.2 x (ZZ.r v1 adJ)) ?_;refine aa (dF h.d.sv Ax) ?_;have key:∀a1:List an,a1=d1.1→LX G 114 rP Tryz.f114 nX (aE Tryz.prog 114 0) (((2:Int),((1:Int),())),(((a1,(E,(s.2,()))),((s,()),((x,()),()))),([x,y],([oA o,oB o],()))))=some ((e,()),(w,())):=fun a1 Ua=>by grind
  exact key _ anb
 by_cases hB:(dn s (oB o)).2.1=0
 case neg =>
  rw[if_pos hB];have ane:dn s (oB o)=(zC,(13,())):=by
   unfold dn at hB ⊢
   cases hv:cH s.1 (oB o).1 with
   |none=>rfl
   |some v=>grind
  refine⟨13,(d1.1,(E,(s.2,()))),abV _ _ ?_,rfl⟩;refine ak AY ?_;refine ae rfl (ae rfl (aa (a:=oB o) rfl (aa (f112 (oB o)) ?_)));rw[ane];rfl
 rw[if_neg (fun k=>k hB)];obtain⟨vb,cb⟩:=su hB;obtain⟨cB,hcB⟩:∃c:xV,c=if(cH s.1 (oB o).1).isSome=true∧(oB o).2=(bK o,0) then oB o else(dn s (oB o)).1:=⟨_,rfl⟩
 have eB:dn s (oB o)=((dn s (oB o)).1,(0,())):=by
  grind
 have cB1:cB.1=(oB o).1:=by rw[hcB];split;rfl;exact cb
 have cBv:(aZ d1.1 cB.1).isSome=true:=by rw[WX];exact zH _ (by rw[cB1];exact vb)
 obtain⟨v2,CP⟩:=acK.1 cBv;have ahR:=gZ CP;have tL:=(abp.1 (dF d1s CP)).1;obtain⟨d2,hd2⟩:∃d2:ar,d2=cS d1 cB y:=⟨_,rfl⟩;have aae:d1.1.set (bV d1.1 cB.1) (v2.1,(uk v2.2.1 cB.2 y,v2.2.2))=d2.1:=by grind [QT]
 have abW:qH s o=d2:=by rw[hd2,WX,hcA,hcB,hx,hy,hE];rfl
 have hE2:d2.2=E:=by rw[hd2,WX];rfl
 have hwf:Wf d2:=by
  rw[←abW];unfold qH;have hn0:ba s.1.2 (bK o)=none:=by simpa using hf
  refine h.d.link bM hn0 h40 (by grind) ?_;rw[←hcB,cB1];exact vb
 have last:∀(e:Int) (w:aV),LX G 114 rP Tryz.f114 nX (aE Tryz.prog 114 0) (((2:Int),((2:Int),())),(((d2.1,(E,(s.2,()))),((s,()),((x,()),()))),([x,y],([oA o,oB o],()))))=some ((e,()),(w,()))→FX G 114 rP ((o,()),(aQ s,()))=some ((e,()),(w,())):=fun e w a=>by
  refine abV _ _ ?_;refine ak AY ?_;refine ae rfl (ae rfl (aa (a:=oB o) rfl (aa (f112 (oB o)) ?_)));rw[eB];have key:∀a2:List an,a2=d2.1→LX G 114 rP Tryz.f114 nX (aE Tryz.prog 114 0) (((2:Int),((2:Int),())),(((a2,(E,(s.2,()))),((s,()),((x,()),()))),([x,y],([oA o,oB o],()))))=some ((e,()),(w,())):=fun a2 Ub=>by grind
  refine af rfl (ae rfl ?_);have s6:=vY (oB o).2 x;by_cases hbe:(oB o).2=x
  ·have ecB:cB=oB o:=by grind
   refine ae (s6.trans (decide_eq_true hbe)) ?_;rw[ecB]at CP tL aae;refine aa (sX hG (d1.1,(E,(s.2,()))) (oB o).1 d1s (by grind)) ?_;refine ae (dw (kl _) (aJ tL)) (aa (dF d1s CP) ?_);refine ae rfl (aa (a:=y) rfl ?_);refine aa (WS hG v2.2.1 (oB o).2 y (abU v2 ahR)) ?_;refine aa (dF d1s CP) ?_;exact key _ aae
  ·have ecB:cB=(dn s (oB o)).1:=by grind
   refine af (s6.trans (decide_eq_false hbe)) ?_;rw[ecB]at CP tL aae;refine aa (sX hG (d1.1,(E,(s.2,()))) (dn s (oB o)).1.1 d1s (by grind)) ?_;refine ae (dw (kl _) (aJ tL)) (aa (dF d1s CP) ?_);refine ae rfl (aa (a:=y) rfl ?_);refine aa (WS hG v2.2.1 (dn s (oB o)).1.2 y (abU v2 ahR)) ?_;refine aa (dF d1s CP) ?_;exact key _ aae
 have f114:=hp d2 hwf;rw[abW];have e2:(d2.1,E)=d2:=by rw[←hE2]
 by_cases hg:cX d2=0
 ·rw[if_neg (fun k=>k hg)];refine⟨0,(d2.1,(E,(s.2,()))),last _ _ ?_,?_⟩
  ·refine ak AY ?_;refine af rfl ?_;have key:∀q:ar,q=d2→((FX G 96 B4 ((q,()),())).bind fun(Mh:((Bool×Unit)×Unit))=>cond (not Mh.1.1) (some (((15:Int),()),((d2.1,(E,(s.2,()))),()))) (some (((0:Int),()),((d2.1,(E,(s.2,()))),()))))=some (((0:Int),()),((d2.1,(E,(s.2,()))),())):=fun q hq=>by subst hq;exact aa f114 (aW (decide_eq_true hg) rfl)
   exact key _ e2
  ·show(Dc (d2.1,(E,(s.2,()))),((0:Int),()))=((d2,s.2),(0,()));show(((d2.1,E),s.2),((0:Int),()))=((d2,s.2),(0,()));rw[e2]
 ·rw[if_pos hg];refine⟨15,(d2.1,(E,(s.2,()))),last _ _ ?_,rfl⟩;refine ak AY ?_;refine af rfl ?_;have key:∀q:ar,q=d2→((FX G 96 B4 ((q,()),())).bind fun(Mh:((Bool×Unit)×Unit))=>cond (not Mh.1.1) (some (((15:Int),()),((d2.1,(E,(s.2,()))),()))) (some (((0:Int),()),((d2.1,(E,(s.2,()))),()))))=some (((15:Int),()),((d2.1,(E,(s.2,()))),())):=fun q hq=>by subst hq;exact aa f114 (aW (decide_eq_false hg) rfl)
  exact key _ e2
theorem ahS(hG:HG G)(row:List ag)(d:ag)(hl:row.length≤100000000):FX G 245 L4 ((row,d,()),())=some (QH (fR row d 1),()):=by
 refine au (hG _ _ rfl) agE ?_;have key:FX G 221 EH ((row,(d,((1:Int),()))),())=some (QH (fR row d 1),()):=by
  refine au (hG _ _ rfl) abz ?_;refine aa (Fs (hG _ _ rfl) row d (by omega)) ?_;unfold fR;by_cases hd:d∈row
  ·rw[if_pos hd];obtain⟨k,h1,h2,h3⟩:=jo hd;have aG:=(abp.1 h2).1;refine af (decide_eq_false (show ¬idx d row 0<0 by omega)) ?_;refine af (O3 hd) ?_;have ZA:IntKind.wrap .i64 (idx d row 0+1)=((k+1:Nat):Int):=by grind [wrap_small]
   have ady:(k+1)%row.length<row.length:=aeM _ (by omega);have hx:=abf ady;refine aa (show aP row (Int.tmod (IntKind.wrap .i64 (idx d row 0+1)) ((row.length:Nat):Int))=some row[(k+1)%row.length] by rw[ZA,zt];exact ai hx) ?_;rw[h1,Int.toNat_natCast,hx];rfl
  ·rw[if_neg hd];exact ae (decide_eq_true (o9.2 hd)) rfl
 refine aa key ?_;rfl
def M4(x:ag):List an→Option ag
 |[]=>none
 |v::r=>if x∈v.2.1 then fR v.2.1 x 1 else M4 x r
theorem QU{l:List an}(h:Rw l){v:an}{x:ag}(hv:v∈l)(hx:x∈v.2.1):∀r,(∀u∈r,u∈l)→v∈r→M4 x r=fR v.2.1 x 1
 |[],_,k=>by cases k
 |u::r,hs,k=>by
  rw[M4];by_cases hu:x∈u.2.1
  ·rw[if_pos hu,h.one hv (hs u List.mem_cons_self) hx hu]
  ·rw[if_neg hu];rcases abq.1 k with e|k
   ·rw[e]at hx;exact absurd hx hu
   ·exact QU h hv hx r (fun w hw=>hs w (abg _ hw)) k
theorem IP{x:ag}:∀{l:List an},x∉av l→M4 x l=none
 |[],_=>rfl
 |v::r,h=>by simp_all [dQ,List.mem_append,M4,if_neg,IP]
theorem Po{d:ar}(h:Rw d.1)(x:ag):M4 x d.1=kH d x:=by
 by_cases hx:x∈av d.1
 ·obtain⟨v,hv,pW⟩:=aS.1 hx
  grind [FG,QU]
 grind [IP,kH,dA,MH]
theorem ahT(hG:HG G)(d:ar)(x:ag)(hs:Sm d)(h:Rw d.1):FX G 240 Ca ((d,x,()),())=some (QH (kH d x),()):=by
 have hv:=hs.v;rw[←Po h x];refine au (hG _ _ rfl) agB ?_;have loop:∀(n i:Nat),i+n=d.1.length→LX G 240 Ca Tryz.f240 zh (aE Tryz.prog 240 0) ((d.1,(((d.1.length:Nat):Int),((i:Int),()))),(((x,()),((zD,()),())),()))=some (QH (M4 x (d.1.drop i)),()):=by
  intro n
  induction n with
  |zero =>intro i hi;refine ak Qw ?_;refine af (decide_eq_false (show ¬((i:Int)<((d.1.length:Nat):Int)) by omega)) ?_;rw[List.drop_eq_nil_of_le (by omega)];rfl
  |succ n ih =>
   intro i hi;have aG:i<d.1.length:=by omega
   refine ak Qw ?_;refine ae (aJ aG) (aa (ai (abf aG)) ?_);refine aa (ahS hG d.1[i].2.1 x (by have:=hs.r _ (acG aG);omega)) ?_;rw[List.drop_eq_getElem_cons aG,M4];by_cases he:x∈d.1[i].2.1
   ·rw[if_pos he];unfold fR;rw[if_pos he];obtain⟨k,h1,h2,h3⟩:=jo he;have hl:=(abp.1 h2).1;have hm:((idx x d.1[i].2.1 0).toNat+1)%d.1[i].2.1.length<d.1[i].2.1.length:=aeM _ (by omega);rw[List.getElem?_eq_getElem hm];rfl
   ·rw[if_neg he];unfold fR;rw[if_neg he];refine af rfl ?_;have:=ih (i+1) (by omega);rw[←aB aG (by omega)]at this;exact this
 have:=loop d.1.length 0 (by omega);rw[List.drop_zero]at this;exact this
theorem at_mem{d:ar}{x:ag}(h:(dA d x).isSome=true):x∈av d.1:=by
 apply Classical.byContradiction
 grind [dA,MH]
theorem ahU(hG:HG G)(d:ar)(x:ag)(h:Wf d):FX G 235 H5 ((d,x,()),())=some (QH (KO d x),()):=by
 have hs:=h.sm;refine au (hG _ _ rfl) agz ?_;refine aa (abT hG d x hs) ?_;have h1:(G2 zI (dA d x)).2.1=(dA d x).isSome:=Da _ _;unfold KO
 cases ha:(dA d x).isSome
 ·rw[if_neg (by simp)];exact aW (h1.trans ha) rfl
 ·rw[if_pos rfl];refine aW (h1.trans ha) ?_;refine aa (MO (hG _ _ rfl) x (h.side (at_mem ha))) ?_;exact aa (ahT hG d (aw x) hs h.rw) rfl
theorem ahV(hG:HG G)(d:ar)(hs:Sm d):FX G 223 yS ((d,()),())=some ((fE d.2,()),()):=by
 have he:=hs.e;refine au (hG _ _ rfl) agy ?_;have loop:∀(n i:Nat) (out:List ag),i+n=d.2.length→out.length=2*i→LX G 223 yS Tryz.f223 zd (aE Tryz.prog 223 0) ((d.2,(((d.2.length:Nat):Int),((i:Int),()))),((),(out,())))=some ((out++fE (d.2.drop i),()),()):=by
  intro n
  induction n with
  |zero =>intro i out hi ho;refine ak Qr ?_;refine af (decide_eq_false (show ¬((i:Int)<((d.2.length:Nat):Int)) by omega)) ?_;rw[List.drop_eq_nil_of_le (by omega)];show some ((out,()),())=some ((out++[],()),());simp_all
  |succ n ih =>
   intro i out hi ho;have aG:i<d.2.length:=by omega
   refine ak Qr ?_;refine ae (aJ aG) (aa (ai (abf aG)) ?_);refine aa (MO (hG _ _ rfl) (d.2[i].1,0) (.inl rfl)) ?_;refine ae (fits (by show out.length+2≤_;omega)) ?_;have:=ih (i+1) (out++[(d.2[i].1,0),(d.2[i].1,1)]) (by omega) (by simp[ho];omega);rw[List.drop_eq_getElem_cons aG];rw[←aB aG (by omega),List.append_assoc]at this;exact this
 exact loop d.2.length 0 [] (by omega) rfl
theorem Xu(hG:HG G)(l:List an)(hl:l.length≤50000000):FX G 207205 lU ((l,()),())=some ((((al l:Nat):Int),()),()):=by
 refine au (hG _ _ rfl) Wj ?_;have loop:∀(n i m:Nat),i+n=l.length→m≤i→LX G 207205 lU Tryz.f205 kX (aE Tryz.prog 205 0) (((m:Int),(l,(((l.length:Nat):Int),((i:Int),())))),((),()))=some ((((m+al (l.drop i):Nat):Int),()),()):=by
  intro n
  induction n with
  |zero =>intro i m hi hm;refine ak E9 ?_;refine af (decide_eq_false (show ¬((i:Int)<((l.length:Nat):Int)) by omega)) ?_;rw[List.drop_eq_nil_of_le (by omega)];rfl
  |succ n ih =>
   intro i m hi hm;have aG:i<l.length:=by omega
   have anh:FX G 206 L0 ((l[i],()),())=some ((l[i].2.1.isEmpty,()),()):=by
    refine au (hG _ _ rfl) agx ?_;have:(((l[i].2.1.length:Nat):Int)==0)=l[i].2.1.isEmpty:=by cases l[i].2.1<;>simp;omega
    exact congrArg (fun b:Bool=>some ((b,()),())) this
   refine ak E9 ?_;refine ae (aJ aG) (aa (ai (abf aG)) ?_);refine aa anh ?_;rw[List.drop_eq_getElem_cons aG];unfold al;rw[List.countP_cons]
   cases hb:l[i].2.1.isEmpty
   ·refine af rfl ?_;have:=ih (i+1) m (by omega) (by omega);rw[←aB aG (by omega)]at this;exact this
   ·refine ae rfl ?_;have:=ih (i+1) (m+1) (by omega) (by omega);rw[←aB aG (by omega),←aB (i:=m) (n:=l.length) (by omega) (by omega)]at this;refine this.trans ?_;refine congrArg (fun q:Nat=>some ((((q:Nat):Int),()),())) ?_
    grind [al]
 have:=loop l.length 0 0 (by omega) (by omega);rw[List.drop_zero,Nat.zero_add]at this;exact this
def Fo(g:List Nat):Prop:=∀(i x:Nat),g[i]? = some x→x≤i
def root(g:List Nat)(i:Nat):Nat :=match g[i]? with
 |some x=>if h:x<i then root g x else i
 |none=>i
termination_by i
theorem eZ{g:List Nat}{i x:Nat}(h:g[i]? = some x):root g i=if x<i then root g x else i:=by rw[root,h];simp
theorem vL{g:List Nat}{i:Nat}(h:g[i]? = none):root g i=i:=by rw[root,h]
theorem QV(g:List Nat):∀i,root g i≤i:=by
 intro i
 induction i using Nat.strongRecOn with
 |_ i ih =>
  cases h:g[i]? with
  |none=>rw[vL h];omega
  |some x =>
   rw[eZ h]
   grind
theorem M5{g:List Nat}(hf:Fo g):∀i,i<g.length→g[root g i]? = some (root g i):=by
 intro i
 induction i using Nat.strongRecOn with
 |_ i ih =>
  intro hi;have h:=abf hi;rw[eZ h]
  split
  ·grind
  ·have:=hf i _ h
   grind
theorem nh{g:List Nat}{i:Nat}(h:g[i]? = some i):root g i=i:=by simp_all [eZ,if_neg]
theorem Fo.set{g:List Nat}(hf:Fo g){i y:Nat}(h:y≤i):Fo (g.set i y):=fun j x hj=>by
 rw[List.getElem?_set]at hj
 split at hj
 ·simp_all
 ·exact hf j x hj
theorem Pp{g:List Nat}(hf:Fo g){i x y:Nat}(hi:g[i]? = some x)(hx:g[x]? = some y)(aG:x<i):∀j,root (g.set i y) j=root g j:=by
 have hyx:=hf x y hx;have nP:=(abp.1 hi).1;intro j
 induction j using Nat.strongRecOn with
 |_ j ih =>
  by_cases e:j=i
  ·subst e;have h1:(g.set j y)[j]? = some y:=by simp_all
   rw[eZ h1,if_pos (by omega),ih y (by omega),eZ hi,if_pos aG,eZ hx]
   grind [nh]
  ·have h1:(g.set i y)[j]? = g[j]? := by grind
   cases h:g[j]? with
   |none=>grind [vL]
   |some z =>simp_all [eZ]
theorem TD{g:List Nat}{a b:Nat}(ha:g[a]? = some a)(hb:g[b]? = some b):∀j,root (g.set (max a b) (min a b)) j=if root g j=max a b then min a b else root g j:=by
 have hm:g[max a b]? = some (max a b):=by grind
 have hn:g[min a b]? = some (min a b):=by grind
 have hml:=(abp.1 hm).1;have hle:min a b≤max a b:=by omega
 generalize max a b=M at *;generalize min a b=m at *;have aG:∀j,(g.set M m)[j]? = if j=M then some m else g[j]? := fun j=>by
  grind
 intro j
 induction j using Nat.strongRecOn with
 |_ j ih =>
  by_cases ej:j=M
  ·subst ej;have h1:(g.set j m)[j]? = some m:=by simp_all
   rw[eZ h1,nh hm,if_pos rfl];by_cases e:m<j
   ·simp_all [if_pos,nh,if_neg]
   grind
  ·have h1:(g.set M m)[j]? = g[j]? := by simp_all
   cases h:g[j]? with
   |none=>simp_all [vL,if_neg]
   |some z =>
    rw[eZ h,eZ (h1.trans h)]
    grind
def fI(g:List Nat):List Int:=g.map fun n=>((n:Nat):Int)
theorem FP(g:List Nat):(fI g).length=g.length:=by simp[fI]
theorem xN{g:List Nat}{i x:Nat}(h:g[i]? = some x):(fI g)[Int.toNat (i:Int)]? = some (x:Int):=by simp[fI,h]
theorem Xv(g:List Nat)(i x:Nat):(fI g).set (Int.toNat (i:Int)) (x:Int)=fI (g.set i x):=by simp[fI,List.map_set]
theorem FQ{g:List Nat}{i:Nat}(h:i<g.length):(decide ((0:Int)≤(i:Int))&&decide ((i:Int)<(((fI g).length:Nat):Int)))=true:=by
 grind [FP,dw,kl,aJ]
structure IQ(g g':List Nat):Prop where
 f:Fo g'
 n:g'.length=g.length
 r:∀j,root g' j=root g j
theorem IQ.trans{a b c:List Nat}(h:IQ a b)(k:IQ b c):IQ a c:=⟨k.f,k.n.trans h.n,fun j=>(k.r j).trans (h.r j)⟩
theorem Xw(hG:HG G)(g:List Nat)(i:Nat)(hf:Fo g)(hi:i<g.length):∃g',IQ g g'∧FX G 242 tV (((i:Int),()),(fI g,()))=some ((((root g i:Nat):Int),()),(fI g',())):=by
 have loop:∀(i:Nat) (g:List Nat),Fo g→i<g.length→∃g',IQ g g'∧LX G 242 tV Tryz.f242 vn (aE Tryz.prog 242 0) (((i:Int),()),((),(fI g,())))=some ((((root g i:Nat):Int),()),(fI g',())):=by
  intro i
  induction i using Nat.strongRecOn with
  |_ i ih =>
   intro g hf hi;have h:=abf hi;generalize g[i]=x at h;have hxi:=hf i x h;by_cases hx:x<i
   ·have h2:=abf (show x<g.length by omega);generalize g[x]=y at h2;have hyx:=hf x y h2;have hs:=Pp hf h h2 hx;have hf2:Fo (g.set i y):=hf.set (by omega);obtain⟨g',h3,h4⟩:=ih y (by omega) (g.set i y) hf2 (by grind);refine⟨g',⟨h3.f,by rw[h3.n,List.length_set],fun j=>(h3.r j).trans (hs j)⟩,?_⟩;refine ak Qx ?_;refine ae (FQ hi) (aa (xN h) ?_);refine ae (show(((x:Nat):Int) != (i:Int))=true by grind) ?_;refine ae (FQ hi) (aa (xN h) ?_);refine ae (FQ (show x<g.length by omega)) (aa (xN h2) ?_);refine ae (FQ hi) (aa (xN h) ?_);have ani:=Xv g i y;have key:∀f:List Int,f=fI (g.set i y)→cond ((decide ((0:Int)≤(i:Int)))&&(decide ((i:Int)<(((List.length f):Nat):Int)))) (((f)[(Int.toNat (i:Int))]?).bind fun(y5:Int)=>LX G 242 tV Tryz.f242 vn (aE Tryz.prog 242 0) ((y5,()),((),(f,())))) none=some ((((root g i:Nat):Int),()),(fI g',())):=fun f hf=>by
     subst hf;refine ae (FQ (by simp_all)) (aa (xN (x:=y) (by simp_all)) ?_);rw[h4,hs y,eZ h,if_pos hx,eZ h2];by_cases hy:y<x
     ·rw[if_pos hy]
     ·have:y=x:=by omega
      subst this;rw[if_neg (by omega),nh h2]
    exact key _ ani
   ·have:x=i:=by omega
    subst this;refine⟨g,⟨hf,rfl,fun _=>rfl⟩,?_⟩;refine ak Qx ?_;refine ae (FQ hi) (aa (xN h) ?_);rw[nh h];exact af (by simp) rfl
 obtain⟨g',h1,h2⟩:=loop i g hf hi;exact⟨g',h1,au (hG _ _ rfl) agD h2⟩
def FR(a b r:Nat):Nat:=if r=max a b then min a b else r
theorem ahW(hG:HG G)(g:List Nat)(i k:Nat)(hf:Fo g)(hi:i<g.length)(hk:k<g.length):∃g',Fo g'∧g'.length=g.length∧(∀j,root g' j=FR (root g i) (root g k) (root g j))∧FX G 241 L3 (((i:Int),((k:Int),())),(fI g,()))=some ((),(fI g',())):=by
 obtain⟨g1,h1,e1⟩:=Xw hG g i hf hi;obtain⟨g2,h2,e2⟩:=Xw hG g1 k h1.f (by rw[h1.n];exact hk);rw[h1.r k]at e2;have hs:=h1.trans h2;have ra:g2[root g i]? = some (root g i):=by have:=M5 hs.f i (by rw[hs.n];exact hi);rw[hs.r i]at this;exact this
 have rb:g2[root g k]? = some (root g k):=by have:=M5 hs.f k (by rw[hs.n];exact hk);rw[hs.r k]at this;exact this
 have hal:=(abp.1 ra).1;have hbl:=(abp.1 rb).1;have hm:max (root g i) (root g k)<g2.length:=by omega
 refine⟨g2.set (max (root g i) (root g k)) (min (root g i) (root g k)),hs.f.set (by omega),by rw[List.length_set,hs.n],fun j=>by rw[TD ra rb j,hs.r j];rfl,?_⟩;refine au (hG _ _ rfl) agC ?_;refine aa e1 (aa e2 ?_);have em:(max ((root g i:Nat):Int) ((root g k:Nat):Int):Int)=((max (root g i) (root g k):Nat):Int):=by omega
 have en:(min ((root g i:Nat):Int) ((root g k:Nat):Int):Int)=((min (root g i) (root g k):Nat):Int):=by omega
 have key:∀m n:Int,m=((max (root g i) (root g k):Nat):Int)→n=((min (root g i) (root g k):Nat):Int)→cond ((decide ((0:Int)≤m))&&(decide (m<(((List.length (fI g2)):Nat):Int)))) (((fI g2)[(Int.toNat m)]?).bind fun(y3:Int)=>(some ((),((List.set (fI g2) (Int.toNat m) n),())):Option (Unit×((List Int)×Unit)))) none=some ((),(fI (g2.set (max (root g i) (root g k)) (min (root g i) (root g k))),())):=fun m n UC RS=>by subst UC RS;refine ae (FQ hm) (aa (xN (abf hm)) ?_);rw[Xv]
 exact key _ _ em en
theorem Bn{α:Type}(x:ag)(es:List (ag×α)):sZ bz x es=es.findIdx? fun e=>decide (e.1=x):=by
 show List.findIdx? (fun e:ag×α=>((x.1.1==e.1.1.1)&&(x.1.2==e.1.1.2))&&(x.2==e.1.2)) es=_
 grind
def fO{β α:Type}[DecidableEq β](x:β):List (β×α)→Option α
 |[]=>none
 |e::r=>if e.1=x then some e.2 else fO x r
theorem Pq{β α:Type}[DecidableEq β](x:β):∀es:List (β×α),((es.findIdx? fun e=>decide (e.1=x)).bind fun i=>(es[i]?).map (·.2))=fO x es
 |[]=>rfl
 |e::r=>by
  have ih:=Pq x r;rw[List.findIdx?_cons,fO];by_cases h:e.1=x
  ·simp_all
  ·rw[if_neg (by simpa using h),if_neg h,←ih]
   cases r.findIdx? fun e=>decide (e.1=x)<;>simp
theorem Pr{α:Type}(x:ag)(es:List (ag×α)):fG bz x es=fO x es:=by have:=Pq x es;rw[←Bn]at this;exact this
theorem M6{α:Type}{x:ag}(v:α){es:List (ag×α)}(h:x∉es.map (·.1)):j4 bz x v es=es++[(x,v)]:=by
 have e:sZ bz x es=none:=by rw[Bn,List.findIdx?_eq_none_iff];intro q hq;exact decide_eq_false fun k=>h (acE.2 ⟨q,hq,k⟩)
 unfold j4
 split
 ·rename_i i k;rw[e]at k;cases k
 ·rfl
theorem M7{β α:Type}[DecidableEq β]{x:β}{v:α}:∀{es:List (β×α)},(es.map (·.1)).Nodup→(x,v)∈es→fO x es=some v
 |[],_,h=>by cases h
 |e::r,hn,h=>by
  simp only[List.map_cons,List.nodup_cons]at hn;rw[fO];rcases abq.1 h with e1|h
  ·grind
  ·rw[if_neg (fun k=>hn.1 (by simp_all))];exact M7 hn.2 h
def jq:List an→Nat→List (ag×Int)
 |[],_=>[]
 |v::r,i=>v.2.1.map (fun x=>(x,(i:Int)))++jq r (i+1)
theorem Bo:∀(l:List an) (i:Nat),(jq l i).map (·.1)=av l
 |[],_=>rfl
 |v::r,i=>by
  have e:(v.2.1.map fun x=>(x,(i:Int))).map (·.1)=v.2.1:=by rw[List.map_map];exact List.map_id _
  rw[jq,dQ,List.map_append,Bo r,e]
theorem M8:∀(a b:List an) (i:Nat),jq (a++b) i=jq a i++jq b (i+a.length)
 |[],b,i=>rfl
 |v::r,b,i=>by rw[List.cons_append,jq,jq,M8 r b,List.append_assoc];congr 3;simp;omega
theorem M9{x:ag}{a:Int}:∀{l:List an} {i:Nat},(x,a)∈jq l i→∃k v,l[k]? = some v∧a=((i+k:Nat):Int)∧x∈v.2.1
 |[],i,h=>by cases h
 |v::r,i,h=>by
  rw[jq]at h;rcases abY.1 h with h|h
  ·grind
  ·obtain⟨k,u,h1,h2,h3⟩:=M9 h;exact⟨k+1,u,by simpa using h1,by omega,h3⟩
theorem QW{x:ag}:∀{l:List an} {i k:Nat} {v:an},l[k]? = some v→x∈v.2.1→(x,((i+k:Nat):Int))∈jq l i
 |v::r,i,0,u,h,hx=>by simp at h;subst h;rw[jq];exact abr _ (acE.2 ⟨x,hx,rfl⟩)
 |v::r,i,k+1,u,h,hx=>by
  rw[jq];refine abw _ ?_;have:=QW (i:=i+1) (k:=k) (by simpa using h) hx
  rwa [show i+1+k=i+(k+1) by omega]at this
theorem Xx(i:Nat):fI (List.range i)++[(i:Int)]=fI (List.range (i+1)):=by rw[List.range_succ];simp[fI]
section
variable {d:ar} {y:jn.B}
theorem aaf(h:Wf d){i:Nat}(hi:i<d.1.length){f:List Int}{nn:Int} (next:LX G 236 jn Tryz.f236 vm (aE Tryz.prog 236 0) ((d.1,(nn,((IntKind.wrap .i64 ((i:Int)+1)),()))),((),(f,(jq (d.1.take (i+1)) 0,()))))=some y):∀(n j:Nat) (es:List (ag×Int)),j+n=d.1[i].2.1.length→es=jq (d.1.take i) 0++(d.1[i].2.1.take j).map (fun x=>(x,(i:Int))) → LX G 236 jn Tryz.f236 ze (aE Tryz.prog 236 1) (((i:Int),(d.1,(nn,((i:Int),(d.1[i].2.1,(((d.1[i].2.1.length:Nat):Int),((j:Int),()))))))),((),(f,(es,()))))=some y:=by
 have hr:=h.mo d.1[i] (acG hi);have et:d.1.take (i+1)=d.1.take i++[d.1[i]]:=(List.take_append_getElem hi).symm;have ev:jq (d.1.take (i+1)) 0=jq (d.1.take i) 0++d.1[i].2.1.map (fun x=>(x,(i:Int))):=by
  rw[et,M8];have:(d.1.take i).length=i:=by rw[List.length_take];omega
  rw[this,Nat.zero_add];congr 1;show d.1[i].2.1.map (fun x=>(x,(i:Int)))++[]=_;rw[List.append_nil]
 have nd:(av (d.1.take i)++d.1[i].2.1).Nodup:=by
  have h1:=h.rw.n;rw[←List.take_append_drop (i+1) d.1,et,la,la]at h1;have e2:av [d.1[i]]=d.1[i].2.1:=by rw[dQ];exact List.append_nil _
  rw[e2]at h1;exact(adz.1 h1).1
 intro n
 induction n with
 |zero =>intro j es hj he;refine ak Qt ?_;refine af (decide_eq_false (show ¬((j:Int)<((d.1[i].2.1.length:Nat):Int)) by omega)) ?_;have e:d.1[i].2.1.take j=d.1[i].2.1:=List.take_of_length_le (by omega);rw[e,←ev]at he;subst he;exact next
 |succ n ih =>
  intro j es hj he;have aG:j<d.1[i].2.1.length:=by omega
  refine ak Qt ?_;refine ae (aJ aG) (aa (ai (abf aG)) ?_);have DQ:d.1[i].2.1[j]∉es.map (·.1):=by
   have e3:((d.1[i].2.1.take j).map fun x=>(x,(i:Int))).map (·.1)=d.1[i].2.1.take j:=by rw[List.map_map];exact List.map_id _
   rw[he,List.map_append,Bo,e3,List.mem_append];rintro(k|k)
   ·exact(adz.1 nd).2.2 _ k _ (acG aG) rfl
   ·obtain⟨q,hq,he⟩:=aeL k;have hq1:q<j:=by rw[List.length_take]at hq;omega
    rw[List.getElem_take]at he;have:=(List.getElem_inj (adz.1 nd).2.1).1 he;omega
  have:=ih (j+1) (j4 bz d.1[i].2.1[j] (i:Int) es) (by omega) (by rw[M6 _ DQ,he,←List.take_append_getElem aG,List.map_append,List.append_assoc];rfl);rw[←aB aG (by omega)]at this;exact this
theorem aag(h:Wf d) (next:LX G 236 jn Tryz.f236 rR (aE Tryz.prog 236 2) ((jq d.1 0,()),((),(fI (List.range d.1.length),((none,jq d.1 0),()))))=some y):∀(n i:Nat),i+n=d.1.length → LX G 236 jn Tryz.f236 vm (aE Tryz.prog 236 0) ((d.1,(((d.1.length:Nat):Int),((i:Int),()))),((),(fI (List.range i),(jq (d.1.take i) 0,()))))=some y:=by
 have hn:=h.nv;intro n
 induction n with
 |zero =>
  intro i hi;have e:i=d.1.length:=by omega
  subst e;refine ak Qs ?_;refine af (decide_eq_false (show ¬(((d.1.length:Nat):Int)<((d.1.length:Nat):Int)) by omega)) ?_;rw[List.take_length];exact next
 |succ n ih =>
  intro i hi;have aG:i<d.1.length:=by omega
  refine ak Qs ?_;refine ae (aJ aG) (aa (ai (abf aG)) ?_);refine ae (fits (by grind [fI,List.range,FP])) ?_;have nx:=ih (i+1) (by omega);rw[←aB aG (by omega),←Xx]at nx;exact aaf (G:=G) h aG nx d.1[i].2.1.length 0 _ (by omega) (by simp)
end
end Go.Vs
namespace Go.Vs
open Go.Proofs
variable {G:(f:FuncId)→(g:aO)→Option (g.A→Option g.B)}
theorem Ps(a b:Nat):FR a b a=min a b∧FR a b b=min a b:=by
 grind [FR]
structure FoI(d:ar)(rem:List (ag×Int))(g:List Nat):Prop where
 f:Fo g
 n:g.length=d.1.length
 c:∀i,i<d.1.length→cJ d (di d i) (di d (root g i))
 p:∀(z:ag) (i k:Nat),(z,(i:Int))∈jq d.1 0→(aw z,(k:Int))∈jq d.1 0→(z,(i:Int))∉rem→root g i=root g k
theorem zL{d:ar}(h:Wf d){z:ag}{a:Int}(hm:(z,a)∈jq d.1 0):∃i:Nat,i<d.1.length∧a=(i:Int)∧z∈av d.1∧dA d z=some (di d i):=by obtain⟨k,v,h1,h2,h3⟩:=M9 hm;rw[Nat.zero_add]at h2;have hv:=abC h1;refine⟨k,(abp.1 h1).1,h2,aS.2 ⟨v,hv,h3⟩,?_⟩;rw[sx h1];exact fk h.rw hv h3
theorem Pu{d:ar}(h:Wf d){z:ag}(hz:z∈av d.1):∃i:Nat,(z,(i:Int))∈jq d.1 0:=by
 obtain⟨v,hv,hx⟩:=aS.1 hz;obtain⟨k,hk⟩:=aeo hv;have:=QW (i:=0) hk hx
 grind
theorem QX{d:ar}(h:Wf d){z:ag}{a:Int}(hm:(z,a)∈jq d.1 0):fG bz z (jq d.1 0)=some a:=by rw[Pr];refine M7 ?_ hm;rw[Bo];exact h.rw.n
theorem FoI.same{d:ar}(h:Wf d){g:List Nat}(hg:FoI d [] g){a b:ID}(k:cJ d a b):∀i j,i<d.1.length→j<d.1.length→di d i=a→di d j=b→root g i=root g j:=by
 induction k with
 |refl=>intro i j hi hj h1 h2;rw[ku h.sv hi hj (h1.trans h2.symm)]
 |tail _ s ih =>
  intro i j hi hj h1 h2;obtain⟨z,hz,s1,s2⟩:=s;obtain⟨m,hm⟩:=Pu h hz;obtain⟨q,hq⟩:=Pu h (h.other hz);obtain⟨m',m1,m2,_,m3⟩:=zL h hm;obtain⟨q',q1,q2,_,q3⟩:=zL h hq;have em:m'=m:=by omega
  have eq:q'=q:=by omega
  subst em;subst eq;rw[s1]at m3;rw[s2]at q3;have r1:=ih i m' hi m1 h1 (acP m3).symm;have r2:=hg.p z m' q' hm hq (by simp);have ej:q'=j:=ku h.sv q1 hj ((acP q3).symm.trans h2.symm);simp_all
theorem FoI.can{d:ar}(h:Wf d){g:List Nat}(hg:FoI d [] g):MZ d (fI ((List.range d.1.length).map (root g))):=by
 have oC:∀i,i<d.1.length→(fI ((List.range d.1.length).map (root g))).getD i 0=((root g i:Nat):Int):=fun i hi=>by
  grind [fI,List.getD]
 refine⟨⟨by rw[FP];simp,fun i hi=>⟨root g i,QV g i,oC i hi,hg.c i hi⟩⟩,fun i hi j hj k=>?_⟩;rw[oC i hi,hg.same h k i j hi hj rfl rfl]
 grind [QV]
theorem aah(hG:HG G){d:ar}(h:Wf d){g:List Nat}:∀(n i:Nat) (g':List Nat),i+n=d.1.length→Fo g'→g'.length=d.1.length→(∀j,root g' j=root g j) → LX G 236 jn Tryz.f236 zg (aE Tryz.prog 236 3) ((((d.1.length:Nat):Int),((i:Int),())),((),(fI g',(fI ((List.range i).map (root g)),()))))=some ((fI ((List.range d.1.length).map (root g)),()),()):=by
 have ND:=h.nv;intro n
 induction n with
 |zero =>
  intro i g' hi h1 h2 h3;have e:i=d.1.length:=by omega
  subst e;refine ak Qv ?_;exact af (decide_eq_false (show ¬(((d.1.length:Nat):Int)<((d.1.length:Nat):Int)) by omega)) rfl
 |succ n ih =>
  intro i g' hi h1 h2 h3;have aG:i<d.1.length:=by omega
  obtain⟨g2,s,e⟩:=Xw hG g' i h1 (by omega);refine ak Qv ?_;refine ae (aJ aG) (aa e ?_);refine ae (fits (by show(fI _).length+1≤_;rw[FP];simp;omega)) ?_;have:=ih (i+1) g2 (by omega) s.f (by rw[s.n,h2]) (fun j=>(s.r j).trans (h3 j));have e2:fI ((List.range (i+1)).map (root g))=fI ((List.range i).map (root g))++[((root g' i:Nat):Int)]:=by simp_all [List.range_succ,fI]
  rw[e2,←aB aG (by omega)]at this;exact this
theorem aai(hG:HG G){d:ar}(h:Wf d):∀(n:Nat) (rem:List (ag×Int)) (g:List Nat) (o:Option (ag×Int)),rem.length=n→(∀e∈rem,e∈jq d.1 0)→FoI d rem g → LX G 236 jn Tryz.f236 rR (aE Tryz.prog 236 2) ((jq d.1 0,()),((),(fI g,((o,rem),()))))=some ((labels d,()),()):=by
 intro n
 induction n with
 |zero =>
  intro rem g o hn hr hg;have e:rem=[]:=abD hn;subst e;refine ak Qu ?_;refine ae rfl ?_;have:=aah (G:=G) hG h (g:=g) d.1.length 0 g (by omega) hg.f hg.n (fun _=>rfl);rw[(hg.can h).uniq h (fm h)]at this;have e2:((fI g).length:Int)=((d.1.length:Nat):Int):=by rw[FP,hg.n]
  rw[←e2]at this;exact this
 |succ n ih =>
  intro rem g o hn hr hg;refine ak Qu ?_;refine af (show rem.isEmpty=false by grind) ?_;refine mF (show 0<rem.length by omega) fun j hj=>?_;have hj':j<rem.length:=hj;refine aa (abf hj') ?_;have hm:=hr _ (acG hj');generalize he:rem[j]=e at hm;obtain⟨z,a⟩:=e;obtain⟨i,hi,ha,hz,haz⟩:=zL h hm;subst ha;obtain⟨k,hk⟩:=Pu h (h.other hz);obtain⟨k',uh,ek,_,hak⟩:=zL h hk;have ek':k'=k:=by omega
  subst ek';refine aa (MO (hG _ _ rfl) z (h.side hz)) ?_;have oC:fG bz (aw z) (jq d.1 0)=some (k':Int):=QX h hk;refine ae (show(fG bz (aw z) (jq d.1 0)).isSome=true by rw[oC];rfl) ?_;obtain⟨g',h1,h2,h3,h4⟩:=ahW hG g i k' hg.f (by rw[hg.n];exact hi) (by rw[hg.n];exact uh);refine aa (a:=((),(fI g',()))) (by
   have:(fG bz (aw z) (jq d.1 0)).getD (0:Int)=(k':Int):=by rw[oC];rfl
   rw[←this]at h4;exact h4) ?_
  have anj:Cm d (di d i) (di d k'):=⟨z,hz,haz,hak⟩;have cij:cJ d (di d (root g i)) (di d (root g k')):=((hg.c i hi).symm h).trans (anj.conn.trans (hg.c k' uh));refine ih (rem.eraseIdx j) g' _ (by grind) (fun e he=>hr e (List.mem_of_mem_eraseIdx he)) ⟨h1,h2.trans hg.n,fun q hq=>?_,fun y p q hp hq hy=>?_⟩
  ·rw[h3 q];unfold FR
   split
   ·rename_i e;refine(hg.c q hq).trans ?_;rw[e];rcases Nat.le_total (root g i) (root g k') with hle|hle
    ·rw[Nat.max_eq_right hle,Nat.min_eq_left hle];exact cij.symm h
    simp_all
   ·exact hg.c q hq
  ·rw[h3 p,h3 q];by_cases sN:(y,(p:Int))∈rem
   ·
    have e:(y,(p:Int))=(z,(i:Int)):=by
     apply Classical.byContradiction
     grind [List.mem_eraseIdx_iff_getElem,List.getElem_of_mem]
    have e1:y=z:=congrArg Prod.fst e;have e2:p=i:=by grind
    subst e1;subst e2;have h5:=QX h hq
    grind [Option.some.inj,Ps]
   ·rw[hg.p y p q hp hq sN]
theorem Pv(n:Nat):∀i,root (List.range n) i=i:=fun i=>by
 grind [List.range,vL,List.getElem?_range,List.getElem?_eq_some_iff,Option.some.inj,nh]
theorem ahY(hG:HG G)(d:ar)(h:Wf d):FX G 236 jn ((d,()),())=some ((labels d,()),()):=by
 refine au (hG _ _ rfl) agA ?_;refine aag (G:=G) h ?_ d.1.length 0 (by omega);refine aai hG h _ (jq d.1 0) (List.range d.1.length) none rfl (fun _ k=>k) ⟨fun i x hx=>?_,by simp,fun i hi=>?_,fun z i k h1 h2 h3=>absurd h1 h3⟩
 ·grind
 ·rw[Pv];exact .refl _
structure PG(G:(f:FuncId)→(g:aO)→Option (g.A→Option g.B)):Prop where
 h:HG G
 f:∀d,Wf d→FX G 207 B8 ((d,()),())=some ((cv d,()),())
 c:∀d,Wf d→FX G 208 B9 ((d,()),())=some ((fM d,()),())
theorem ahZ(hp:PG G)(d:ar)(h:Wf d):FX G 183 LY ((d,()),())=some ((((d.1.length:Nat):Int),(((d.2.length:Nat):Int),(((ft d:Nat):Int),(fM d,())))),()):=by
 have hn:=h.nv;have hf:=zK h;have ha:al d.1≤d.1.length:=aew;refine au (hp.h _ _ rfl) agt ?_;refine aa (Xu hp.h d.1 (by omega)) ?_;refine aa (hp.f d h) (aa (hp.c d h) ?_);have e:IntKind.wrap .i64 ((((cv d).length:Nat):Int)+((al d.1:Nat):Int))=((ft d:Nat):Int):=by rw[wrap_small (by omega) (by omega)];rfl
 exact congrArg (fun n:Int=>some ((((d.1.length:Nat):Int),(((d.2.length:Nat):Int),(n,(fM d,())))),())) e
theorem ah0(hp:PG G)(d:ar)(h:Wf d):FX G 144 LU ((d,()),())=some ((cX d,()),()):=by
 have hn:=h.nv;have bA:=h.ne;have hf:=zK h;have ha:al d.1≤d.1.length:=aew;refine au (hp.h _ _ rfl) agj ?_;refine aa (ahZ hp d h) (af rfl ?_);have hr:=mg h (fm h);obtain⟨k,e1,e2⟩:=M1 h hr;have ec:=vK h;have KK:(ov d (labels d)).length≤d.1.length:=by
  grind [ov,List.length_map,Nat.le_trans,List.length_filter_le]
 have hft:ft d≤80+d.1.length:=by omega
 refine congrArg (fun n:Int=>some ((n,()),())) ?_;show IntKind.wrap .i64 (fM d-IntKind.wrap .i64 (Int.tdiv (IntKind.wrap .i64 ((IntKind.wrap .i64 (((d.1.length:Nat):Int)-((d.2.length:Nat):Int)))+((ft d:Nat):Int))) 2))=cX d
 grind [wrap_small,ft,ov,labels,Int.mul_tdiv_cancel_left]
theorem aaj(hp:PG G):jM G:=fun d h=>by refine au (hp.h _ _ rfl) af1 ?_;refine aa (ah0 hp d h) ?_;rfl
end Go.Vs
