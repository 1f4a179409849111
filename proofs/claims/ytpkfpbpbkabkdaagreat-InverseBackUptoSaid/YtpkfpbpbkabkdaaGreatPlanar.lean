/- What the program computes of -/
import Derived.Test.YtpkfpbpbkabkdaaGreatEuler
set_option linter.unusedVariables false
set_option linter.unusedSimpArgs false
namespace Go.Vs
open Go.Proofs
variable {G:(f:FuncId)→(g:aX)→Option (g.A→Option g.B)}
theorem Og(w:ai)(r:List ai)(x:ID):aN (w::r) x=if w.1=x then some w else aN r x:=by unfold aN;rw[List.find?_cons];by_cases h:w.1=x<;>simp[h]
theorem Wm(hG:HG G)(l:List ai)(x:ID)(hl:l.length≤1073741824):FX G 110108 lS ((l,x,()),())=some (jY zV (aN l x),()):=by
 refine aB (hG _ _ rfl) Ve ?_;have loop:∀(n i:Nat),i+n=l.length→LX G 110108 lS Tryz.f108 nX (aS Tryz.prog 108 0) ((l,(((l.length:Nat):Int),((i:Int),()))),(((x,()),(((0:Int),((0:Int),(([]:List ae),(e0,((0:Int),()))))),())),()))=some (jY zV (aN (l.drop i) x),()):=by
  intro n
  induction n with
  |zero =>intro i hi;refine ax EA ?_;refine ag (decide_eq_false (show ¬((i:Int)<((l.length:Nat):Int)) by omega)) ?_;rw[List.drop_eq_nil_of_le (by omega)];rfl
  |succ n ih =>
   intro i hi;have aH:i<l.length:=by omega
   have al8:FX G 109 K8 ((l[i],()),())=some ((l[i].1,()),()):=aB (hG _ _ rfl) aeR rfl;refine ax EA ?_;refine af (bg aH) (aa (aC (abb aH)) ?_);refine aa al8 ?_;rw[List.drop_eq_getElem_cons aH,Og];by_cases he:l[i].1=x
   ·rw[if_pos he];exact af ((jl l[i].1 x).trans (decide_eq_true he)) rfl
   ·rw[if_neg he];refine ag ((jl l[i].1 x).trans (decide_eq_false he)) ?_;have:=ih (i+1) (by omega);rw[←aK aH hl]at this;exact this
 have:=loop l.length 0 (by omega);rw[List.drop_zero]at this;exact this
theorem Ma(hG:HG G)(d:ak)(x:ID)(hs:Sm d):FX G 74 vz ((d,x,()),())=some (jY zV (aO d x),()):=by
 have hv:=hs.v;refine aB (hG _ _ rfl) aeE ?_;refine aa (Wm hG d.1 x (by omega)) ?_;unfold aO
 cases hf:aN d.1 x with
 |none=>exact aa (abS (hG _ _ rfl) [] (by simp)) rfl
 |some v=>exact aa (abS (hG _ _ rfl) v.2.1 (hs.r v (dr hf))) rfl
theorem Wn(w:ai)(r:List ai)(x:ae):EM (w::r) x=if x∈w.2.1 then some w.1 else EM r x:=by unfold EM;rw[List.find?_cons];by_cases h:x∈w.2.1<;>simp[h]
theorem Wo(hG:HG G)(d:ak)(x:ae)(hs:Sm d):FX G 139 vA ((d,x,()),())=some (jY zI (bJ d x),()):=by
 have hv:=hs.v;refine aB (hG _ _ rfl) aeS ?_;have loop:∀(n i:Nat),i+n=d.1.length→LX G 139 vA Tryz.f139 ya (aS Tryz.prog 139 0) ((d.1,(((d.1.length:Nat):Int),((i:Int),()))),(((x,()),((zI,()),())),()))=some (jY zI (EM (d.1.drop i) x),()):=by
  intro n
  induction n with
  |zero =>intro i hi;refine ax Pj ?_;refine ag (decide_eq_false (show ¬((i:Int)<((d.1.length:Nat):Int)) by omega)) ?_;rw[List.drop_eq_nil_of_le (by omega)];rfl
  |succ n ih =>
   intro i hi;have aH:i<d.1.length:=by omega
   refine ax Pj ?_;refine af (bg aH) (aa (aC (abb aH)) ?_);refine aa (Ho hG d.1[i].2.1 x (by have:=hs.r _ (acy aH);omega)) ?_;rw[List.drop_eq_getElem_cons aH,Wn];by_cases he:x∈d.1[i].2.1
   ·rw[if_pos he];exact af (decide_eq_true he) rfl
   ·rw[if_neg he];refine ag (decide_eq_false he) ?_;have:=ih (i+1) (by omega);rw[←aK aH (by omega)]at this;exact this
 have:=loop d.1.length 0 (by omega);rw[List.drop_zero]at this;exact this
def Oh(x:ae):List aE→Int→Int
 |[],_ => -1
 |g::r,i=>if g.1=x then i else Oh x r (i+1)
theorem Mb(x:ae):∀(l:List aE) (i:Nat),(Oh x l i = -1∧iw l x=none)∨∃k g,Oh x l (i:Int)=((i+k:Nat):Int)∧l[k]? = some g∧iw l x=some g.2
 |[],i=>.inl ⟨rfl,rfl⟩
 |g::r,i=>by
  rw[Oh,rL];by_cases h:g.1=x
  ·rw[if_pos h,if_pos h];exact .inr ⟨0,g,by simp,by simp,rfl⟩
  ·rw[if_neg h,if_neg h];have e:(i:Int)+1=((i+1:Nat):Int):=by omega
   rw[e];rcases Mb x r (i+1) with⟨h1,h2⟩|⟨k,q,h1,h2,h3⟩
   ·exact .inl ⟨h1,h2⟩
   ·exact .inr ⟨k+1,q,by rw[h1];congr 1;omega,by simpa using h2,h3⟩
theorem Wp(hG:HG G)(l:List aE)(x:ae)(hl:l.length≤1073741824):FX G 246244 ki ((l,()),((x,()),()))=some ((Oh x l 0,()),((x,()),())):=by
 refine aB (hG _ _ rfl) Vg ?_;have loop:∀(n i:Nat),i+n=l.length→LX G 246244 ki Tryz.f244 kV (aS Tryz.prog 244 0) ((l,(((l.length:Nat):Int),((i:Int),()))),(((x,()),()),()))=some ((Oh x (l.drop i) i,()),((x,()),())):=by
  intro n
  induction n with
  |zero =>intro i hi;refine ax EC ?_;refine ag (decide_eq_false (show ¬((i:Int)<((l.length:Nat):Int)) by omega)) ?_;rw[List.drop_eq_nil_of_le (by omega)];rfl
  |succ n ih =>
   intro i hi;have aH:i<l.length:=by omega
   have al9:FX G 245 Lb ((l[i],()),((x.1.1,(x.1.2,(x.2,()))),()))=some (((((l[i].1.1.1==x.1.1)&&(l[i].1.1.2==x.1.2))&&(l[i].1.2==x.2)),()),((x.1.1,(x.1.2,(x.2,()))),())) :=aB (hG _ _ rfl) aeX rfl;refine ax EC ?_;refine af (bg aH) (aa (aC (abb aH)) ?_);refine aa al9 ?_;rw[List.drop_eq_getElem_cons aH,Oh];by_cases he:l[i].1=x
   ·rw[if_pos he];exact af ((lW l[i].1 x).trans (decide_eq_true he)) rfl
   ·rw[if_neg he];refine ag ((lW l[i].1 x).trans (decide_eq_false he)) ?_;have:=ih (i+1) (by omega);have e:=aK aH hl;show LX G 246244 ki Tryz.f244 kV (aS Tryz.prog 244 0) ((l,(((l.length:Nat):Int),(IntKind.wrap .i64 ((i:Int)+1),()))),(((x,()),()),()))=some ((Oh x (l.drop (i+1)) ((i+1:Nat):Int),()),((x,()),()));rw[e];exact this
 have:=loop l.length 0 (by omega);rw[List.drop_zero]at this;exact this
theorem age(hG:HG G)(l:List aE)(x:ae)(hl:l.length≤1073741824):FX G 230 K9 ((l,x,()),())=some (jY zD (iw l x),()):=by
 refine aB (hG _ _ rfl) aeT ?_;refine aa (Wp hG l x hl) ?_;rcases Mb x l 0 with⟨h1,h2⟩|⟨k,g,h1,h2,h3⟩
 ·have h1:Oh x l 0 = -1:=h1;rw[h2];exact af (decide_eq_true (show Oh x l 0<0 by omega)) rfl
 ·have h1:Oh x l 0=(k:Int):=by have:Oh x l ((0:Nat):Int)=Oh x l 0:=rfl;rw[←this,h1];congr 1;omega
  rw[h3];refine ag (decide_eq_false (show ¬Oh x l 0<0 by omega)) ?_;refine aa (show bh l (Oh x l 0)=some g by rw[h1];exact aC h2) ?_;rfl
theorem agf(hG:HG G)(s:StateT)(x:ae)(hs:Sm s.1)(hg:s.2.length≤50000000):FX G 212 Bu ((s,x,()),())=some ((resolve s x,()),()):=by
 refine aB (hG _ _ rfl) aeF ?_;have hw:IntKind.wrap .i64 (((s.2.length:Nat):Int)+1)=((s.2.length+1:Nat):Int):=by rw[wrap_small (by omega) (by omega)];rfl
 have loop:∀(n i:Nat) (y:ae),i+n=s.2.length+1→LX G 212 Bu Tryz.f212 xW (aS Tryz.prog 212 0) (((IntKind.wrap .i64 (((s.2.length:Nat):Int)+1)),((i:Int),())),(((s,()),((y,()),((zD,()),()))),()))=some ((res s.1 s.2 n y,()),()):=by
  intro n
  induction n with
  |zero =>intro i y hi;refine ax Pe ?_;exact ag (decide_eq_false (show ¬((i:Int)<IntKind.wrap .i64 (((s.2.length:Nat):Int)+1)) by rw[hw];omega)) rfl
  |succ n ih =>
   intro i y hi;refine ax Pe ?_;refine af (decide_eq_true (show((i:Int)<IntKind.wrap .i64 (((s.2.length:Nat):Int)+1)) by rw[hw];omega)) ?_;refine aa (Wo hG s.1 y hs) ?_;rw[res];have h1:(jY zI (bJ s.1 y)).2.1=(bJ s.1 y).isSome:=iF _ _
   cases ha:(bJ s.1 y).isSome
   ·rw[if_neg (by simp)];refine ag (h1.trans ha) ?_;refine aa (age hG s.2 y (by omega)) ?_
    cases hf:iw s.2 y with
    |none=>exact af rfl rfl
    |some z =>
     refine ag rfl ?_;have:=ih (i+1) z (by omega);have e:IntKind.wrap .i64 ((i:Int)+1)=((i+1:Nat):Int):=by rw[wrap_small (by omega) (by omega)];rfl
     rw[←e]at this;exact this
   ·rw[if_pos rfl];exact af (h1.trans ha) rfl
 exact loop (s.2.length+1) 0 x (by omega)
theorem agh(hG:HG G)(s:StateT)(c:ml)(hs:Sm s.1)(hg:s.2.length≤50000000):FX G 180 K4 ((s,c,()),())=some (aR s c,()):=by
 refine aB (hG _ _ rfl) aeq ?_;refine aa (Ma hG s.1 c.1 hs) ?_;unfold aR
 cases hf:aO s.1 c.1 with
 |none=>exact af rfl rfl
 |some v =>
  refine ag rfl ?_;refine aa (agf hG s c.2 hs hg) ?_;refine aa (Ho hG v.2.1 (resolve s c.2) (by have:=hs.r v (dr hf);omega)) ?_;show _=some (((c.1,mN s c v),((0:Int),())),());unfold mN;by_cases hm:resolve s c.2∈v.2.1
  ·rw[if_pos hm];exact aZ (decide_eq_true hm) rfl
  ·rw[if_neg hm];exact aZ (decide_eq_false hm) rfl
def Oi(G:(f:FuncId)→(g:aX)→Option (g.A→Option g.B)):Prop:=∀d,Wf d→FX G 172 D1 ((d,()),())=some ((decide (bY d=0),()),())
theorem PU{l:List ai}{e:List an}{c:ml}{v:ai}(hs:cd l)(hf:aN l c.1=some v)(x:ae):l.set (bP l c.1) (v.1,(gN v.2.1 c.2 x,v.2.2))=(br (l,e) c x).1:=by rw[N1 hs (dK hs hf)];have hi:=gj hf;have hm:=dr hf;unfold br Vs.b8;rw[←hi,gk (d:=(l,e)) hs hm]
theorem Fk{d:ak}(h:Wf d):rr d.1 d.2=true:=by unfold rr;have h1:=h.nv;have h2:=h.ne;simp only[Bool.and_eq_true,decide_eq_true_eq,List.all_eq_true];exact⟨by omega,by omega,fun v hv=>by have:=h.wR v hv;omega⟩
theorem YU(hG:HG G)(hp:Oi G)(o:aW):pQ G o:=by
 intro s h hm SU;have Qv:=h.d.nv;have bq:=h.d.ne;have hn:=h.n;have V6:=h.d.small;have bQ:=rJ hm;have start:∀(e:Int) (w:bf),cm 154 qn Tryz.f154 (FX G) (LX G 154 qn Tryz.f154) ((o,()),(aT s,()))=some ((e,()),(w,()))→FX G 154 qn ((o,()),(aT s,()))=some ((e,()),(w,())):=fun e w a =>aB (hG _ _ rfl) a rfl;have f110:=aaG hG (aT s) (au o) h.d.se (by show s.1.2.length≤_;omega);unfold kJ
 cases hf:(aL s.1.2 (au o)).isSome with
 |true =>have e1:vH (aT s) (au o)=(12,aT s):=if_pos hf;rw[e1]at f110;refine⟨12,aT s,start _ _ ((abw).trans (af (Fk h.d) (aa f110 (af rfl rfl)))),?_⟩;rw[if_pos (show(cH s.1 (au o)).isSome=true from hf)];rfl
 |false =>
 rw[if_neg (show ¬(cH s.1 (au o)).isSome=true by show ¬(aL s.1.2 (au o)).isSome=true;rw[hf];simp)];by_cases h40:40≤s.1.2.length
 ·have e1:vH (aT s) (au o)=(3,aT s):=(if_neg (show ¬(aL s.1.2 (au o)).isSome=true by rw[hf];simp)).trans (if_pos h40);rw[e1]at f110;refine⟨3,aT s,start _ _ ((abw).trans (af (Fk h.d) (aa f110 (af rfl rfl)))),?_⟩;rw[if_pos h40];rfl
 rw[if_neg h40];obtain⟨E,hE⟩:∃E,E=bR (au o,(e0,0)) s.1.2:=⟨_,rfl⟩;have e1:vH (aT s) (au o)=(0,(s.1.1,(E,(s.2,())))):=by rw[hE];exact(if_neg (show ¬(aL s.1.2 (au o)).isSome=true by rw[hf];simp)).trans (if_neg h40)
 rw[e1]at f110;obtain⟨x,hx⟩:∃x:ae,x=(au o,0):=⟨_,rfl⟩;obtain⟨y,hy⟩:∃y:ae,y=(au o,1):=⟨_,rfl⟩;have f111:FX G 179 DZ ((au o,()),())=some ((x,y,()),()):=by rw[hx,hy];exact aB (hG _ _ rfl) aan rfl
 have f112:=fun c:ml=>agh hG s c h.d.sm (by omega);have go:∀(e:Int) (w:bf),LX G 154 qn Tryz.f154 nW (aS Tryz.prog 154 0) (((2:Int),((0:Int),())),(((s.1.1,(E,(s.2,()))),((s,()),((x,()),()))),([x,y],([oA o,oB o],()))))=some ((e,()),(w,()))→FX G 154 qn ((o,()),(aT s,()))=some ((e,()),(w,())):=fun e w a =>start _ _ ((abw).trans (af (Fk h.d) (aa f110 (ag rfl (aa f111 a)))));by_cases hA:(aR s (oA o)).2.1=0
 case neg =>
  rw[if_pos hA];have ama:aR s (oA o)=(zC,(13,())):=by
   unfold aR at hA ⊢
   cases hv:aO s.1 (oA o).1 with
   |none=>rfl
   |some v=>rw[hv]at hA;exact absurd rfl hA
  refine⟨13,(s.1.1,(E,(s.2,()))),go _ _ ?_,rfl⟩;refine ax Ac ?_;refine af rfl (af rfl (aa (a:=oA o) rfl (aa (f112 (oA o)) ?_)));rw[ama];exact af rfl rfl
 rw[if_neg (fun k=>k hA)];obtain⟨va,ca⟩:=lj hA;obtain⟨cA,hcA⟩:∃c:ml,c=(aR s (oA o)).1:=⟨_,rfl⟩;have eA:aR s (oA o)=(cA,(0,())):=by
  rw[hcA];have:(aR s (oA o)).2=(0,()):=by have h1:(aR s (oA o)).2=((aR s (oA o)).2.1,()):=rfl;rw[h1,hA]
  rw[←this]
 have cAv:(aN s.1.1 cA.1).isSome=true:=by rw[hcA,ca];exact va
 obtain⟨v1,xq⟩:=ab3.1 cAv;have ab4:=dr xq;obtain⟨d1,N0⟩:∃d1:ak,d1=br (s.1.1,E) cA x:=⟨_,rfl⟩;have amb:s.1.1.set (bP s.1.1 cA.1) (v1.1,(gN v1.2.1 cA.2 x,v1.2.2))=d1.1:=by rw[N0];exact PU h.d.sv xq x
 have d1s:cd d1.1:=by rw[N0];exact h.d.sv.re _ _
 have hl1:=(aa9.1 (dK h.d.sv xq)).1;have aaP:∀v∈d1.1,v.2.1.length≤50000000:=fun v hv=>by
  rw[N0]at hv;obtain⟨w,hw,rfl⟩:=ace.1 (show v∈s.1.1.map (iM cA.1 (gN (aV (s.1.1,E) cA.1) cA.2 x)) from hv);have h1:=h.d.wR w hw;unfold iM
  split
  ·have h2:=BD (aV (s.1.1,E) cA.1) cA.2 x;have h3:(aV (s.1.1,E) cA.1).length≤80:=by rw[←gj xq,gk (d:=(s.1.1,E)) h.d.sv ab4];exact h.d.wR v1 ab4
   show(gN (aV (s.1.1,E) cA.1) cA.2 x).length≤50000000;omega
  ·omega
 have d1l:d1.1.length=s.1.1.length:=by rw[N0];exact fK _ _ _
 have aaQ:∀(e:Int) (w:bf),LX G 154 qn Tryz.f154 nW (aS Tryz.prog 154 0) (((2:Int),((1:Int),())),(((d1.1,(E,(s.2,()))),((s,()),((x,()),()))),([x,y],([oA o,oB o],()))))=some ((e,()),(w,()))→FX G 154 qn ((o,()),(aT s,()))=some ((e,()),(w,())):=fun e w a=>by
  refine go _ _ ?_;refine ax Ac ?_;refine af rfl (af rfl (aa (a:=oA o) rfl (aa (f112 (oA o)) ?_)));rw[eA];refine ag rfl (ag rfl ?_);refine aa (si hG (s.1.1,(E,(s.2,()))) cA.1 h.d.sv V6.n) ?_;refine af (dA (gr _) (bg hl1)) (aa (dK h.d.sv xq) ?_);refine af rfl (aa (a:=x) rfl ?_);refine aa (VQ hG v1.2.1 cA.2 x (V6.r v1 ab4)) ?_;refine aa (dK h.d.sv xq) ?_;have key:∀a1:List ai,a1=d1.1→LX G 154 qn Tryz.f154 nW (aS Tryz.prog 154 0) (((2:Int),((1:Int),())),(((a1,(E,(s.2,()))),((s,()),((x,()),()))),([x,y],([oA o,oB o],()))))=some ((e,()),(w,())):=fun a1 HJ=>by subst HJ;exact a
  exact key _ amb
 by_cases hB:(aR s (oB o)).2.1=0
 case neg =>
  rw[if_pos hB];have amc:aR s (oB o)=(zC,(13,())):=by
   unfold aR at hB ⊢
   cases hv:aO s.1 (oB o).1 with
   |none=>rfl
   |some v=>rw[hv]at hB;exact absurd rfl hB
  refine⟨13,(d1.1,(E,(s.2,()))),aaQ _ _ ?_,rfl⟩;refine ax Ac ?_;refine af rfl (af rfl (aa (a:=oB o) rfl (aa (f112 (oB o)) ?_)));rw[amc];exact af rfl rfl
 rw[if_neg (fun k=>k hB)];obtain⟨vb,cb⟩:=lj hB;obtain⟨cB,YV⟩:∃c:ml,c=if(aO s.1 (oB o).1).isSome=true∧(oB o).2=(au o,0) then oB o else(aR s (oB o)).1:=⟨_,rfl⟩
 have eB:aR s (oB o)=((aR s (oB o)).1,(0,())):=by
  have:(aR s (oB o)).2=(0,()):=by have h1:(aR s (oB o)).2=((aR s (oB o)).2.1,()):=rfl;rw[h1,hB]
  rw[←this]
 have cB1:cB.1=(oB o).1:=by rw[YV];split;rfl;exact cb
 have cBv:(aN d1.1 cB.1).isSome=true:=by rw[N0];exact tI _ (by rw[cB1];exact vb)
 obtain⟨v2,AZ⟩:=ab3.1 cBv;have agj:=dr AZ;have yV:=(aa9.1 (dK d1s AZ)).1;obtain⟨d2,X5⟩:∃d2:ak,d2=br d1 cB y:=⟨_,rfl⟩;have YW:d1.1.set (bP d1.1 cB.1) (v2.1,(gN v2.2.1 cB.2 y,v2.2.2))=d2.1:=by rw[X5];exact PU (e:=d1.2) d1s AZ y
 have aaR:gP s o=d2:=by rw[X5,N0,hcA,YV,hx,hy,hE];rfl
 have hE2:d2.2=E:=by rw[X5,N0];rfl
 have hwf:Wf d2:=by
  rw[←aaR];unfold gP;have hn0:aL s.1.2 (au o)=none:=by simpa using hf
  refine h.d.link bQ hn0 h40 (by rw[ca];exact va) ?_;rw[←YV,cB1];exact vb
 have last:∀(e:Int) (w:bf),LX G 154 qn Tryz.f154 nW (aS Tryz.prog 154 0) (((2:Int),((2:Int),())),(((d2.1,(E,(s.2,()))),((s,()),((x,()),()))),([x,y],([oA o,oB o],()))))=some ((e,()),(w,()))→FX G 154 qn ((o,()),(aT s,()))=some ((e,()),(w,())):=fun e w a=>by
  refine aaQ _ _ ?_;refine ax Ac ?_;refine af rfl (af rfl (aa (a:=oB o) rfl (aa (f112 (oB o)) ?_)));rw[eB];have key:∀a2:List ai,a2=d2.1→LX G 154 qn Tryz.f154 nW (aS Tryz.prog 154 0) (((2:Int),((2:Int),())),(((a2,(E,(s.2,()))),((s,()),((x,()),()))),([x,y],([oA o,oB o],()))))=some ((e,()),(w,())):=fun a2 Gu=>by subst Gu;exact a
  refine ag rfl (af rfl ?_);have so:=lW (oB o).2 x;by_cases Yh:(oB o).2=x
  ·have ecB:cB=oB o:=by rw[YV];exact if_pos ⟨vb,Yh.trans hx⟩
   refine af (so.trans (decide_eq_true Yh)) ?_;rw[ecB]at AZ yV YW;refine aa (si hG (d1.1,(E,(s.2,()))) (oB o).1 d1s (by show d1.1.length≤_;omega)) ?_;refine af (dA (gr _) (bg yV)) (aa (dK d1s AZ) ?_);refine af rfl (aa (a:=y) rfl ?_);refine aa (VQ hG v2.2.1 (oB o).2 y (aaP v2 agj)) ?_;refine aa (dK d1s AZ) ?_;exact key _ YW
  ·have ecB:cB=(aR s (oB o)).1:=by rw[YV];exact if_neg (fun k=>Yh (k.2.trans hx.symm))
   refine ag (so.trans (decide_eq_false Yh)) ?_;rw[ecB]at AZ yV YW;refine aa (si hG (d1.1,(E,(s.2,()))) (aR s (oB o)).1.1 d1s (by show d1.1.length≤_;omega)) ?_;refine af (dA (gr _) (bg yV)) (aa (dK d1s AZ) ?_);refine af rfl (aa (a:=y) rfl ?_);refine aa (VQ hG v2.2.1 (aR s (oB o)).1.2 y (aaP v2 agj)) ?_;refine aa (dK d1s AZ) ?_;exact key _ YW
 have f114:=hp d2 hwf;rw[aaR];have e2:(d2.1,E)=d2:=by rw[←hE2]
 by_cases hg:bY d2=0
 ·rw[if_neg (fun k=>k hg)];refine⟨0,(d2.1,(E,(s.2,()))),last _ _ ?_,?_⟩
  ·refine ax Ac ?_;refine ag rfl ?_;have key:∀q:ak,q=d2→((FX G 172 D1 ((q,()),())).bind fun(Lm:((Bool×Unit)×Unit))=>cond (not Lm.1.1) (some (((15:Int),()),((d2.1,(E,(s.2,()))),()))) (some (((0:Int),()),((d2.1,(E,(s.2,()))),()))))=some (((0:Int),()),((d2.1,(E,(s.2,()))),())):=fun q hq=>by subst hq;exact aa f114 (aZ (decide_eq_true hg) rfl)
   exact key _ e2
  ·show(CE (d2.1,(E,(s.2,()))),((0:Int),()))=((d2,s.2),(0,()));show(((d2.1,E),s.2),((0:Int),()))=((d2,s.2),(0,()));rw[e2]
 ·rw[if_pos hg];refine⟨15,(d2.1,(E,(s.2,()))),last _ _ ?_,rfl⟩;refine ax Ac ?_;refine ag rfl ?_;have key:∀q:ak,q=d2→((FX G 172 D1 ((q,()),())).bind fun(Lm:((Bool×Unit)×Unit))=>cond (not Lm.1.1) (some (((15:Int),()),((d2.1,(E,(s.2,()))),()))) (some (((0:Int),()),((d2.1,(E,(s.2,()))),()))))=some (((15:Int),()),((d2.1,(E,(s.2,()))),())):=fun q hq=>by subst hq;exact aa f114 (aZ (decide_eq_false hg) rfl)
  exact key _ e2
theorem agk(hG:HG G)(row:List ae)(d:ae)(hl:row.length≤100000000):FX G 261 Le ((row,d,()),())=some (BB (cU row d 1),()):=by
 refine aB (hG _ _ rfl) ae5 ?_;have key:FX G 167 D8 ((row,(d,((1:Int),()))),())=some (BB (cU row d 1),()):=by
  refine aB (hG _ _ rfl) aao ?_;refine aa (EU (hG _ _ rfl) row d (by omega)) ?_;unfold cU;by_cases hd:d∈row
  ·rw[if_pos hd];obtain⟨k,h1,h2,h3⟩:=eU hd;have aH:=(aa9.1 h2).1;refine ag (decide_eq_false (show ¬idx d row 0<0 by omega)) ?_;refine ag (Jd hd) ?_;have Lq:IntKind.wrap .i64 (idx d row 0+1)=((k+1:Nat):Int):=by rw[h1,wrap_small (by omega) (by omega)];rfl
   have Ai:(k+1)%row.length<row.length:=adr _ (by omega);have hx:=abb Ai;refine aa (show bh row (Int.tmod (IntKind.wrap .i64 (idx d row 0+1)) ((row.length:Nat):Int))=some row[(k+1)%row.length] by rw[Lq,tD];exact aC hx) ?_;rw[h1,Int.toNat_natCast,hx];rfl
  ·rw[if_neg hd];exact af (decide_eq_true (fS.2 hd)) rfl
 refine aa key ?_;rfl
def Mc(x:ae):List ai→Option ae
 |[]=>none
 |v::r=>if x∈v.2.1 then cU v.2.1 x 1 else Mc x r
theorem PV{l:List ai}(h:Rw l){v:ai}{x:ae}(hv:v∈l)(hx:x∈v.2.1):∀r,(∀u∈r,u∈l)→v∈r→Mc x r=cU v.2.1 x 1
 |[],_,k=>by cases k
 |u::r,hs,k=>by
  rw[Mc];by_cases hu:x∈u.2.1
  ·rw[if_pos hu,h.one hv (hs u List.mem_cons_self) hx hu]
  ·rw[if_neg hu];rcases abi.1 k with e|k
   ·rw[e]at hx;exact absurd hx hu
   ·exact PV h hv hx r (fun w hw=>hs w (aa6 _ hw)) k
theorem HK{x:ae}:∀{l:List ai},x∉aq l→Mc x l=none
 |[],_=>rfl
 |v::r,h=>by rw[jJ,List.mem_append]at h;rw[Mc,if_neg (fun k=>h (.inl k))];exact HK fun k=>h (.inr k)
theorem Oj{d:ak}(h:Rw d.1)(x:ae):Mc x d.1=kH d x:=by
 by_cases hx:x∈aq d.1
 ·obtain⟨v,hv,j4⟩:=aM.1 hx;rw[Fb h hv j4];exact PV h hv j4 d.1 (fun _ k=>k) hv
 ·rw[HK hx];unfold kH bJ;rw[LK hx]
theorem agl(hG:HG G)(d:ak)(x:ae)(hs:Sm d)(h:Rw d.1):FX G 258 Bx ((d,x,()),())=some (BB (kH d x),()):=by
 have hv:=hs.v;rw[←Oj h x];refine aB (hG _ _ rfl) ae2 ?_;have loop:∀(n i:Nat),i+n=d.1.length→LX G 258 Bx Tryz.f258 yg (aS Tryz.prog 258 0) ((d.1,(((d.1.length:Nat):Int),((i:Int),()))),(((x,()),((zD,()),())),()))=some (BB (Mc x (d.1.drop i)),()):=by
  intro n
  induction n with
  |zero =>intro i hi;refine ax Pr ?_;refine ag (decide_eq_false (show ¬((i:Int)<((d.1.length:Nat):Int)) by omega)) ?_;rw[List.drop_eq_nil_of_le (by omega)];rfl
  |succ n ih =>
   intro i hi;have aH:i<d.1.length:=by omega
   refine ax Pr ?_;refine af (bg aH) (aa (aC (abb aH)) ?_);refine aa (agk hG d.1[i].2.1 x (by have:=hs.r _ (acy aH);omega)) ?_;rw[List.drop_eq_getElem_cons aH,Mc];by_cases he:x∈d.1[i].2.1
   ·rw[if_pos he];unfold cU;rw[if_pos he];obtain⟨k,h1,h2,h3⟩:=eU he;have hl:=(aa9.1 h2).1;have hm:((idx x d.1[i].2.1 0).toNat+1)%d.1[i].2.1.length<d.1[i].2.1.length:=adr _ (by omega);rw[List.getElem?_eq_getElem hm];exact af rfl rfl
   ·rw[if_neg he];unfold cU;rw[if_neg he];refine ag rfl ?_;have:=ih (i+1) (by omega);rw[←aK aH (by omega)]at this;exact this
 have:=loop d.1.length 0 (by omega);rw[List.drop_zero]at this;exact this
theorem at_mem{d:ak}{x:ae}(h:(bJ d x).isSome=true):x∈aq d.1:=by
 apply Classical.byContradiction;intro k;unfold bJ at h;rw[LK k]at h
 cases h
theorem agm(hG:HG G)(d:ak)(x:ae)(h:Wf d):FX G 255 Hc ((d,x,()),())=some (BB (JX d x),()):=by
 have hs:=h.sm;refine aB (hG _ _ rfl) ae0 ?_;refine aa (Wo hG d x hs) ?_;have h1:(jY zI (bJ d x)).2.1=(bJ d x).isSome:=iF _ _;unfold JX
 cases ha:(bJ d x).isSome
 ·rw[if_neg (by simp)];exact aZ (h1.trans ha) rfl
 ·rw[if_pos rfl];refine aZ (h1.trans ha) ?_;refine aa (LQ (hG _ _ rfl) x (h.side (at_mem ha))) ?_;exact aa (agl hG d (ah x) hs h.rw) rfl
theorem agn(hG:HG G)(d:ak)(hs:Sm d):FX G 249 xT ((d,()),())=some ((fT d.2,()),()):=by
 have he:=hs.e;refine aB (hG _ _ rfl) aeZ ?_;have loop:∀(n i:Nat) (out:List ae),i+n=d.2.length→out.length=2*i→LX G 249 xT Tryz.f249 yc (aS Tryz.prog 249 0) ((d.2,(((d.2.length:Nat):Int),((i:Int),()))),((),(out,())))=some ((out++fT (d.2.drop i),()),()):=by
  intro n
  induction n with
  |zero =>intro i out hi ho;refine ax Pk ?_;refine ag (decide_eq_false (show ¬((i:Int)<((d.2.length:Nat):Int)) by omega)) ?_;rw[List.drop_eq_nil_of_le (by omega)];show some ((out,()),())=some ((out++[],()),());rw[List.append_nil]
  |succ n ih =>
   intro i out hi ho;have aH:i<d.2.length:=by omega
   refine ax Pk ?_;refine af (bg aH) (aa (aC (abb aH)) ?_);refine aa (LQ (hG _ _ rfl) (d.2[i].1,0) (.inl rfl)) ?_;refine af (fits (by show out.length+2≤_;omega)) ?_;have:=ih (i+1) (out++[(d.2[i].1,0),(d.2[i].1,1)]) (by omega) (by simp[ho];omega);rw[List.drop_eq_getElem_cons aH];rw[←aK aH (by omega),List.append_assoc]at this;exact this
 exact loop d.2.length 0 [] (by omega) rfl
theorem Wq(hG:HG G)(l:List ai)(hl:l.length≤50000000):FX G 240238 lT ((l,()),())=some ((((al l:Nat):Int),()),()):=by
 refine aB (hG _ _ rfl) Vh ?_;have loop:∀(n i m:Nat),i+n=l.length→m≤i→LX G 240238 lT Tryz.f238 kW (aS Tryz.prog 238 0) (((m:Int),(l,(((l.length:Nat):Int),((i:Int),())))),((),()))=some ((((m+al (l.drop i):Nat):Int),()),()):=by
  intro n
  induction n with
  |zero =>intro i m hi hm;refine ax ED ?_;refine ag (decide_eq_false (show ¬((i:Int)<((l.length:Nat):Int)) by omega)) ?_;rw[List.drop_eq_nil_of_le (by omega)];rfl
  |succ n ih =>
   intro i m hi hm;have aH:i<l.length:=by omega
   have ame:FX G 239 Lc ((l[i],()),())=some ((l[i].2.1.isEmpty,()),()):=by
    refine aB (hG _ _ rfl) aeY ?_;have:(((l[i].2.1.length:Nat):Int)==0)=l[i].2.1.isEmpty:=by cases l[i].2.1<;>simp;omega
    exact congrArg (fun b:Bool=>some ((b,()),())) this
   refine ax ED ?_;refine af (bg aH) (aa (aC (abb aH)) ?_);refine aa ame ?_;rw[List.drop_eq_getElem_cons aH];unfold al;rw[List.countP_cons]
   cases hb:l[i].2.1.isEmpty
   ·refine ag rfl ?_;have:=ih (i+1) m (by omega) (by omega);rw[←aK aH (by omega)]at this;exact this
   ·refine af rfl ?_;have:=ih (i+1) (m+1) (by omega) (by omega);rw[←aK aH (by omega),←aK (i:=m) (n:=l.length) (by omega) (by omega)]at this;refine this.trans ?_;refine congrArg (fun q:Nat=>some ((((q:Nat):Int),()),())) ?_;unfold al;simp;omega
 have:=loop l.length 0 0 (by omega) (by omega);rw[List.drop_zero,Nat.zero_add]at this;exact this
def Fo(g:List Nat):Prop:=∀(i x:Nat),g[i]? = some x→x≤i
def root(g:List Nat)(i:Nat):Nat :=match g[i]? with
 |some x=>if h:x<i then root g x else i
 |none=>i
termination_by i
theorem eJ{g:List Nat}{i x:Nat}(h:g[i]? = some x):root g i=if x<i then root g x else i:=by rw[root,h];simp
theorem ni{g:List Nat}{i:Nat}(h:g[i]? = none):root g i=i:=by rw[root,h]
theorem PW(g:List Nat):∀i,root g i≤i:=by
 intro i
 induction i using Nat.strongRecOn with
 |_ i ih =>
  cases h:g[i]? with
  |none=>rw[ni h];exact aci _
  |some x =>
   rw[eJ h]
   split
   ·rename_i hx;have:=ih x hx;omega
   ·exact aci _
theorem Md{g:List Nat}(hf:Fo g):∀i,i<g.length→g[root g i]? = some (root g i):=by
 intro i
 induction i using Nat.strongRecOn with
 |_ i ih =>
  intro hi;have h:=abb hi;rw[eJ h]
  split
  ·rename_i hx;exact ih _ hx (by omega)
  ·have:=hf i _ h;rw[h];congr 1;omega
theorem nj{g:List Nat}{i:Nat}(h:g[i]? = some i):root g i=i:=by rw[eJ h,if_neg (by omega)]
theorem Fo.set{g:List Nat}(hf:Fo g){i y:Nat}(h:y≤i):Fo (g.set i y):=fun j x hj=>by
 rw[List.getElem?_set]at hj
 split at hj
 ·rename_i e;subst e
  split at hj
  ·cases hj;exact h
  ·cases hj
 ·exact hf j x hj
theorem Ol{g:List Nat}(hf:Fo g){i x y:Nat}(hi:g[i]? = some x)(hx:g[x]? = some y)(aH:x<i):∀j,root (g.set i y) j=root g j:=by
 have hyx:=hf x y hx;have pJ:=(aa9.1 hi).1;intro j
 induction j using Nat.strongRecOn with
 |_ j ih =>
  by_cases e:j=i
  ·subst e;have h1:(g.set j y)[j]? = some y:=by rw[List.getElem?_set];simp[pJ]
   rw[eJ h1,if_pos (by omega),ih y (by omega),eJ hi,if_pos aH,eJ hx]
   split
   ·rfl
   ·have:y=x:=by omega
    subst this;exact nj hx
  ·have h1:(g.set i y)[j]? = g[j]? := by rw[List.getElem?_set,if_neg (fun k=>e k.symm)]
   cases h:g[j]? with
   |none=>rw[ni h,ni (h1.trans h)]
   |some z =>
    rw[eJ h,eJ (h1.trans h)]
    split
    ·rename_i hz;exact ih z hz
    ·rfl
theorem Sb{g:List Nat}{a b:Nat}(ha:g[a]? = some a)(hb:g[b]? = some b):∀j,root (g.set (max a b) (min a b)) j=if root g j=max a b then min a b else root g j:=by
 have hm:g[max a b]? = some (max a b):=by rcases Nat.le_total a b with h|h<;>simp[Nat.max_eq_right,Nat.max_eq_left,h,ha,hb]
 have hn:g[min a b]? = some (min a b):=by rcases Nat.le_total a b with h|h<;>simp[Nat.min_eq_right,Nat.min_eq_left,h,ha,hb]
 have hml:=(aa9.1 hm).1;have hle:min a b≤max a b:=by omega
 generalize max a b=M at *;generalize min a b=m at *;have aH:∀j,(g.set M m)[j]? = if j=M then some m else g[j]? := fun j=>by
  rw[List.getElem?_set];by_cases e:M=j
  ·subst e;simp[hml]
  ·rw[if_neg e,if_neg (fun k=>e k.symm)]
 intro j
 induction j using Nat.strongRecOn with
 |_ j ih =>
  by_cases ej:j=M
  ·subst ej;have h1:(g.set j m)[j]? = some m:=by rw[aH,if_pos rfl]
   rw[eJ h1,nj hm,if_pos rfl];by_cases e:m<j
   ·rw[if_pos e,ih m e,nj hn,if_neg (by omega)]
   ·rw[if_neg e];omega
  ·have h1:(g.set M m)[j]? = g[j]? := by rw[aH,if_neg ej]
   cases h:g[j]? with
   |none=>rw[ni h,ni (h1.trans h),if_neg ej]
   |some z =>
    rw[eJ h,eJ (h1.trans h)];by_cases hz:z<j
    ·rw[if_pos hz,if_pos hz];exact ih z hz
    ·rw[if_neg hz,if_neg hz,if_neg ej]
def fI(g:List Nat):List Int:=g.map fun n=>((n:Nat):Int)
theorem Fl(g:List Nat):(fI g).length=g.length:=by simp[fI]
theorem wV{g:List Nat}{i x:Nat}(h:g[i]? = some x):(fI g)[Int.toNat (i:Int)]? = some (x:Int):=by simp[fI,h]
theorem Wr(g:List Nat)(i x:Nat):(fI g).set (Int.toNat (i:Int)) (x:Int)=fI (g.set i x):=by simp[fI,List.map_set]
theorem Fm{g:List Nat}{i:Nat}(h:i<g.length):(decide ((0:Int)≤(i:Int))&&decide ((i:Int)<(((fI g).length:Nat):Int)))=true:=by rw[Fl];exact dA (gr i) (bg h)
structure HL(g g':List Nat):Prop where
 f:Fo g'
 n:g'.length=g.length
 r:∀j,root g' j=root g j
theorem HL.trans{a b c:List Nat}(h:HL a b)(k:HL b c):HL a c:=⟨k.f,k.n.trans h.n,fun j=>(k.r j).trans (h.r j)⟩
theorem Ws(hG:HG G)(g:List Nat)(i:Nat)(hf:Fo g)(hi:i<g.length):∃g',HL g g'∧FX G 260 tu (((i:Int),()),(fI g,()))=some ((((root g i:Nat):Int),()),(fI g',())):=by
 have loop:∀(i:Nat) (g:List Nat),Fo g→i<g.length→∃g',HL g g'∧LX G 260 tu Tryz.f260 uE (aS Tryz.prog 260 0) (((i:Int),()),((),(fI g,())))=some ((((root g i:Nat):Int),()),(fI g',())):=by
  intro i
  induction i using Nat.strongRecOn with
  |_ i ih =>
   intro g hf hi;have h:=abb hi;generalize g[i]=x at h;have hxi:=hf i x h;by_cases hx:x<i
   ·have h2:=abb (show x<g.length by omega);generalize g[x]=y at h2;have hyx:=hf x y h2;have hs:=Ol hf h h2 hx;have hf2:Fo (g.set i y):=hf.set (by omega);obtain⟨g',h3,h4⟩:=ih y (by omega) (g.set i y) hf2 (by rw[List.length_set];omega);refine⟨g',⟨h3.f,by rw[h3.n,List.length_set],fun j=>(h3.r j).trans (hs j)⟩,?_⟩;refine ax Ps ?_;refine af (Fm hi) (aa (wV h) ?_);refine af (show(((x:Nat):Int) != (i:Int))=true by rw[bne_iff_ne];omega) ?_;refine af (Fm hi) (aa (wV h) ?_);refine af (Fm (show x<g.length by omega)) (aa (wV h2) ?_);refine af (Fm hi) (aa (wV h) ?_);have amf:=Wr g i y;have key:∀f:List Int,f=fI (g.set i y)→cond ((decide ((0:Int)≤(i:Int)))&&(decide ((i:Int)<(((List.length f):Nat):Int)))) (((f)[(Int.toNat (i:Int))]?).bind fun(y5:Int)=>LX G 260 tu Tryz.f260 uE (aS Tryz.prog 260 0) ((y5,()),((),(f,())))) none=some ((((root g i:Nat):Int),()),(fI g',())):=fun f hf=>by
     subst hf;refine af (Fm (by rw[List.length_set];exact hi)) (aa (wV (x:=y) (by rw[List.getElem?_set];simp[hi])) ?_);rw[h4,hs y,eJ h,if_pos hx,eJ h2];by_cases hy:y<x
     ·rw[if_pos hy]
     ·have:y=x:=by omega
      subst this;rw[if_neg (by omega),nj h2]
    exact key _ amf
   ·have:x=i:=by omega
    subst this;refine⟨g,⟨hf,rfl,fun _=>rfl⟩,?_⟩;refine ax Ps ?_;refine af (Fm hi) (aa (wV h) ?_);rw[nj h];exact ag (by simp) rfl
 obtain⟨g',h1,h2⟩:=loop i g hf hi;exact⟨g',h1,aB (hG _ _ rfl) ae4 h2⟩
def Fp(a b r:Nat):Nat:=if r=max a b then min a b else r
theorem ago(hG:HG G)(g:List Nat)(i k:Nat)(hf:Fo g)(hi:i<g.length)(hk:k<g.length):∃g',Fo g'∧g'.length=g.length∧(∀j,root g' j=Fp (root g i) (root g k) (root g j))∧FX G 259 Ld (((i:Int),((k:Int),())),(fI g,()))=some ((),(fI g',())):=by
 obtain⟨g1,h1,e1⟩:=Ws hG g i hf hi;obtain⟨g2,h2,e2⟩:=Ws hG g1 k h1.f (by rw[h1.n];exact hk);rw[h1.r k]at e2;have hs:=h1.trans h2;have ra:g2[root g i]? = some (root g i):=by have:=Md hs.f i (by rw[hs.n];exact hi);rw[hs.r i]at this;exact this
 have rb:g2[root g k]? = some (root g k):=by have:=Md hs.f k (by rw[hs.n];exact hk);rw[hs.r k]at this;exact this
 have hal:=(aa9.1 ra).1;have hbl:=(aa9.1 rb).1;have hm:max (root g i) (root g k)<g2.length:=by omega
 refine⟨g2.set (max (root g i) (root g k)) (min (root g i) (root g k)),hs.f.set (by omega),by rw[List.length_set,hs.n],fun j=>by rw[Sb ra rb j,hs.r j];rfl,?_⟩;refine aB (hG _ _ rfl) ae3 ?_;refine aa e1 (aa e2 ?_);have em:(max ((root g i:Nat):Int) ((root g k:Nat):Int):Int)=((max (root g i) (root g k):Nat):Int):=by omega
 have en:(min ((root g i:Nat):Int) ((root g k:Nat):Int):Int)=((min (root g i) (root g k):Nat):Int):=by omega
 have key:∀m n:Int,m=((max (root g i) (root g k):Nat):Int)→n=((min (root g i) (root g k):Nat):Int)→cond ((decide ((0:Int)≤m))&&(decide (m<(((List.length (fI g2)):Nat):Int)))) (((fI g2)[(Int.toNat m)]?).bind fun(y3:Int)=>(some ((),((List.set (fI g2) (Int.toNat m) n),())):Option (Unit×((List Int)×Unit)))) none=some ((),(fI (g2.set (max (root g i) (root g k)) (min (root g i) (root g k))),())):=fun m n X2 M0=>by subst X2 M0;refine af (Fm hm) (aa (wV (abb hm)) ?_);rw[Wr]
 exact key _ _ em en
theorem Om{α:Type}(x:ae)(es:List (ae×α)):vO bA x es=es.findIdx? fun e=>decide (e.1=x):=by
 show List.findIdx? (fun e:ae×α=>((x.1.1==e.1.1.1)&&(x.1.2==e.1.1.2))&&(x.2==e.1.2)) es=_;congr 1;funext e;rw[lW x e.1];by_cases h:x=e.1
 ·rw[decide_eq_true h,decide_eq_true h.symm]
 ·rw[decide_eq_false h,decide_eq_false (fun k=>h k.symm)]
def gR{β α:Type}[DecidableEq β](x:β):List (β×α)→Option α
 |[]=>none
 |e::r=>if e.1=x then some e.2 else gR x r
theorem On{β α:Type}[DecidableEq β](x:β):∀es:List (β×α),((es.findIdx? fun e=>decide (e.1=x)).bind fun i=>(es[i]?).map (·.2))=gR x es
 |[]=>rfl
 |e::r=>by
  have ih:=On x r;rw[List.findIdx?_cons,gR];by_cases h:e.1=x
  ·rw[if_pos (decide_eq_true h),if_pos h];rfl
  ·rw[if_neg (by simpa using h),if_neg h,←ih]
   cases r.findIdx? fun e=>decide (e.1=x)<;>simp
theorem Wt{α:Type}(x:ae)(es:List (ae×α)):j5 bA x es=gR x es:=by have:=On x es;rw[←Om]at this;exact this
theorem Wu{α:Type}{x:ae}(v:α){es:List (ae×α)}(h:x∉es.map (·.1)):oD bA x v es=es++[(x,v)]:=by
 have e:vO bA x es=none:=by rw[Om,List.findIdx?_eq_none_iff];intro q hq;exact decide_eq_false fun k=>h (ace.2 ⟨q,hq,k⟩)
 unfold oD
 split
 ·rename_i i k;rw[e]at k;cases k
 ·rfl
theorem Me{β α:Type}[DecidableEq β]{x:β}{v:α}:∀{es:List (β×α)},(es.map (·.1)).Nodup→(x,v)∈es→gR x es=some v
 |[],_,h=>by cases h
 |e::r,hn,h=>by
  simp only[List.map_cons,List.nodup_cons]at hn;rw[gR];rcases abi.1 h with e1|h
  ·subst e1;rw[if_pos rfl]
  ·rw[if_neg (fun k=>hn.1 (by rw[k];exact List.mem_map.2 ⟨_,h,rfl⟩))];exact Me hn.2 h
def jo:List ai→Nat→List (ae×Int)
 |[],_=>[]
 |v::r,i=>v.2.1.map (fun x=>(x,(i:Int)))++jo r (i+1)
theorem AD:∀(l:List ai) (i:Nat),(jo l i).map (·.1)=aq l
 |[],_=>rfl
 |v::r,i=>by
  have e:(v.2.1.map fun x=>(x,(i:Int))).map (·.1)=v.2.1:=by rw[List.map_map];exact List.map_id _
  rw[jo,jJ,List.map_append,AD r,e]
theorem Mf:∀(a b:List ai) (i:Nat),jo (a++b) i=jo a i++jo b (i+a.length)
 |[],b,i=>rfl
 |v::r,b,i=>by rw[List.cons_append,jo,jo,Mf r b,List.append_assoc];congr 3;simp;omega
theorem Mg{x:ae}{a:Int}:∀{l:List ai} {i:Nat},(x,a)∈jo l i→∃k v,l[k]? = some v∧a=((i+k:Nat):Int)∧x∈v.2.1
 |[],i,h=>by cases h
 |v::r,i,h=>by
  rw[jo]at h;rcases abG.1 h with h|h
  ·obtain⟨y,hy,e⟩:=ace.1 h
   cases e
   exact⟨0,v,rfl,rfl,hy⟩
  ·obtain⟨k,u,h1,h2,h3⟩:=Mg h;exact⟨k+1,u,by simpa using h1,by rw[h2];congr 1;omega,h3⟩
theorem PX{x:ae}:∀{l:List ai} {i k:Nat} {v:ai},l[k]? = some v→x∈v.2.1→(x,((i+k:Nat):Int))∈jo l i
 |v::r,i,0,u,h,hx=>by simp at h;subst h;rw[jo];exact abn _ (ace.2 ⟨x,hx,rfl⟩)
 |v::r,i,k+1,u,h,hx=>by
  rw[jo];refine abj _ ?_;have:=PX (i:=i+1) (k:=k) (by simpa using h) hx
  rwa [show i+1+k=i+(k+1) by omega]at this
theorem Wv(i:Nat):fI (List.range i)++[(i:Int)]=fI (List.range (i+1)):=by rw[List.range_succ];simp[fI]
section
variable {d:ak} {y:ji.B}
theorem YX(h:Wf d){i:Nat}(hi:i<d.1.length){f:List Int}{nn:Int} (next:LX G 256 ji Tryz.f256 uD (aS Tryz.prog 256 0) ((d.1,(nn,((IntKind.wrap .i64 ((i:Int)+1)),()))),((),(f,(jo (d.1.take (i+1)) 0,()))))=some y):∀(n j:Nat) (es:List (ae×Int)),j+n=d.1[i].2.1.length→es=jo (d.1.take i) 0++(d.1[i].2.1.take j).map (fun x=>(x,(i:Int))) → LX G 256 ji Tryz.f256 yd (aS Tryz.prog 256 1) (((i:Int),(d.1,(nn,((i:Int),(d.1[i].2.1,(((d.1[i].2.1.length:Nat):Int),((j:Int),()))))))),((),(f,(es,()))))=some y:=by
 have hr:=h.wR d.1[i] (acy hi);have et:d.1.take (i+1)=d.1.take i++[d.1[i]]:=(List.take_append_getElem hi).symm;have ev:jo (d.1.take (i+1)) 0=jo (d.1.take i) 0++d.1[i].2.1.map (fun x=>(x,(i:Int))):=by
  rw[et,Mf];have:(d.1.take i).length=i:=by rw[List.length_take];omega
  rw[this,Nat.zero_add];congr 1;show d.1[i].2.1.map (fun x=>(x,(i:Int)))++[]=_;rw[List.append_nil]
 have nd:(aq (d.1.take i)++d.1[i].2.1).Nodup:=by
  have h1:=h.rw.n;rw[←List.take_append_drop (i+1) d.1,et,qE,qE]at h1;have e2:aq [d.1[i]]=d.1[i].2.1:=by rw[jJ];exact List.append_nil _
  rw[e2]at h1;exact(ac2.1 h1).1
 intro n
 induction n with
 |zero =>intro j es hj he;refine ax Po ?_;refine ag (decide_eq_false (show ¬((j:Int)<((d.1[i].2.1.length:Nat):Int)) by omega)) ?_;have e:d.1[i].2.1.take j=d.1[i].2.1:=List.take_of_length_le (by omega);rw[e,←ev]at he;subst he;exact next
 |succ n ih =>
  intro j es hj he;have aH:j<d.1[i].2.1.length:=by omega
  refine ax Po ?_;refine af (bg aH) (aa (aC (abb aH)) ?_);have F2:d.1[i].2.1[j]∉es.map (·.1):=by
   have e3:((d.1[i].2.1.take j).map fun x=>(x,(i:Int))).map (·.1)=d.1[i].2.1.take j:=by rw[List.map_map];exact List.map_id _
   rw[he,List.map_append,AD,e3,List.mem_append];rintro(k|k)
   ·exact(ac2.1 nd).2.2 _ k _ (acy aH) rfl
   ·obtain⟨q,hq,he⟩:=adk k;have hq1:q<j:=by rw[List.length_take]at hq;omega
    rw[List.getElem_take]at he;have:=(List.getElem_inj (ac2.1 nd).2.1).1 he;omega
  have:=ih (j+1) (oD bA d.1[i].2.1[j] (i:Int) es) (by omega) (by rw[Wu _ F2,he,←List.take_append_getElem aH,List.map_append,List.append_assoc];rfl);rw[←aK aH (by omega)]at this;exact this
theorem YY(h:Wf d) (next:LX G 256 ji Tryz.f256 rz (aS Tryz.prog 256 2) ((jo d.1 0,()),((),(fI (List.range d.1.length),((none,jo d.1 0),()))))=some y):∀(n i:Nat),i+n=d.1.length → LX G 256 ji Tryz.f256 uD (aS Tryz.prog 256 0) ((d.1,(((d.1.length:Nat):Int),((i:Int),()))),((),(fI (List.range i),(jo (d.1.take i) 0,()))))=some y:=by
 have hn:=h.nv;intro n
 induction n with
 |zero =>
  intro i hi;have e:i=d.1.length:=by omega
  subst e;refine ax Pn ?_;refine ag (decide_eq_false (show ¬(((d.1.length:Nat):Int)<((d.1.length:Nat):Int)) by omega)) ?_;rw[List.take_length];exact next
 |succ n ih =>
  intro i hi;have aH:i<d.1.length:=by omega
  refine ax Pn ?_;refine af (bg aH) (aa (aC (abb aH)) ?_);refine af (fits (by show(fI (List.range i)).length+1≤_;rw[Fl];simp;omega)) ?_;have nx:=ih (i+1) (by omega);rw[←aK aH (by omega),←Wv]at nx;exact YX (G:=G) h aH nx d.1[i].2.1.length 0 _ (by omega) (by simp)
end
end Go.Vs
namespace Go.Vs
open Go.Proofs
variable {G:(f:FuncId)→(g:aX)→Option (g.A→Option g.B)}
theorem Fq(a b:Nat):Fp a b a=min a b∧Fp a b b=min a b:=by unfold Fp;constructor<;>split<;>omega
structure FoI(d:ak)(rem:List (ae×Int))(g:List Nat):Prop where
 f:Fo g
 n:g.length=d.1.length
 c:∀i,i<d.1.length→cI d (dh d i) (dh d (root g i))
 p:∀(z:ae) (i k:Nat),(z,(i:Int))∈jo d.1 0→(ah z,(k:Int))∈jo d.1 0→(z,(i:Int))∉rem→root g i=root g k
theorem yF{d:ak}(h:Wf d){z:ae}{a:Int}(hm:(z,a)∈jo d.1 0):∃i:Nat,i<d.1.length∧a=(i:Int)∧z∈aq d.1∧bJ d z=some (dh d i):=by obtain⟨k,v,h1,h2,h3⟩:=Mg hm;rw[Nat.zero_add]at h2;have hv:=acd h1;refine⟨k,(aa9.1 h1).1,h2,aM.2 ⟨v,hv,h3⟩,?_⟩;rw[oY h1];exact dp h.rw hv h3
theorem Oo{d:ak}(h:Wf d){z:ae}(hz:z∈aq d.1):∃i:Nat,(z,(i:Int))∈jo d.1 0:=by obtain⟨v,hv,hx⟩:=aM.1 hz;obtain⟨k,hk⟩:=ade hv;have:=PX (i:=0) hk hx;rw[Nat.zero_add]at this;exact⟨k,this⟩
theorem PY{d:ak}(h:Wf d){z:ae}{a:Int}(hm:(z,a)∈jo d.1 0):j5 bA z (jo d.1 0)=some a:=by rw[Wt];refine Me ?_ hm;rw[AD];exact h.rw.n
theorem FoI.same{d:ak}(h:Wf d){g:List Nat}(hg:FoI d [] g){a b:ID}(k:cI d a b):∀i j,i<d.1.length→j<d.1.length→dh d i=a→dh d j=b→root g i=root g j:=by
 induction k with
 |refl=>intro i j hi hj h1 h2;rw[kz h.sv hi hj (h1.trans h2.symm)]
 |tail _ s ih =>
  intro i j hi hj h1 h2;obtain⟨z,hz,s1,s2⟩:=s;obtain⟨m,hm⟩:=Oo h hz;obtain⟨q,hq⟩:=Oo h (h.other hz);obtain⟨m',m1,m2,_,m3⟩:=yF h hm;obtain⟨q',q1,q2,_,q3⟩:=yF h hq;have em:m'=m:=by omega
  have eq:q'=q:=by omega
  subst em;subst eq;rw[s1]at m3;rw[s2]at q3;have r1:=ih i m' hi m1 h1 (abZ m3).symm;have r2:=hg.p z m' q' hm hq (by simp);have ej:q'=j:=kz h.sv q1 hj ((abZ q3).symm.trans h2.symm);rw[r1,r2,ej]
theorem FoI.can{d:ak}(h:Wf d){g:List Nat}(hg:FoI d [] g):L7 d (fI ((List.range d.1.length).map (root g))):=by
 have pw:∀i,i<d.1.length→(fI ((List.range d.1.length).map (root g))).getD i 0=((root g i:Nat):Int):=fun i hi=>by unfold fI;simp[List.getD,hi]
 refine⟨⟨by rw[Fl];simp,fun i hi=>⟨root g i,PW g i,pw i hi,hg.c i hi⟩⟩,fun i hi j hj k=>?_⟩;rw[pw i hi,hg.same h k i j hi hj rfl rfl];have:=PW g j;omega
theorem YZ(hG:HG G){d:ak}(h:Wf d){g:List Nat}:∀(n i:Nat) (g':List Nat),i+n=d.1.length→Fo g'→g'.length=d.1.length→(∀j,root g' j=root g j) → LX G 256 ji Tryz.f256 yf (aS Tryz.prog 256 3) ((((d.1.length:Nat):Int),((i:Int),())),((),(fI g',(fI ((List.range i).map (root g)),()))))=some ((fI ((List.range d.1.length).map (root g)),()),()):=by
 have Qv:=h.nv;intro n
 induction n with
 |zero =>
  intro i g' hi h1 h2 h3;have e:i=d.1.length:=by omega
  subst e;refine ax Pq ?_;exact ag (decide_eq_false (show ¬(((d.1.length:Nat):Int)<((d.1.length:Nat):Int)) by omega)) rfl
 |succ n ih =>
  intro i g' hi h1 h2 h3;have aH:i<d.1.length:=by omega
  obtain⟨g2,s,e⟩:=Ws hG g' i h1 (by omega);refine ax Pq ?_;refine af (bg aH) (aa e ?_);refine af (fits (by show(fI _).length+1≤_;rw[Fl];simp;omega)) ?_;have:=ih (i+1) g2 (by omega) s.f (by rw[s.n,h2]) (fun j=>(s.r j).trans (h3 j));have e2:fI ((List.range (i+1)).map (root g))=fI ((List.range i).map (root g))++[((root g' i:Nat):Int)]:=by rw[List.range_succ,h3 i];simp[fI]
  rw[e2,←aK aH (by omega)]at this;exact this
theorem Y0(hG:HG G){d:ak}(h:Wf d):∀(n:Nat) (rem:List (ae×Int)) (g:List Nat) (o:Option (ae×Int)),rem.length=n→(∀e∈rem,e∈jo d.1 0)→FoI d rem g → LX G 256 ji Tryz.f256 rz (aS Tryz.prog 256 2) ((jo d.1 0,()),((),(fI g,((o,rem),()))))=some ((labels d,()),()):=by
 intro n
 induction n with
 |zero =>
  intro rem g o hn hr hg;have e:rem=[]:=acf hn;subst e;refine ax Pp ?_;refine af rfl ?_;have:=YZ (G:=G) hG h (g:=g) d.1.length 0 g (by omega) hg.f hg.n (fun _=>rfl);rw[(hg.can h).uniq h (fL h)]at this;have e2:((fI g).length:Int)=((d.1.length:Nat):Int):=by rw[Fl,hg.n]
  rw[←e2]at this;exact this
 |succ n ih =>
  intro rem g o hn hr hg;refine ax Pp ?_;refine ag (show rem.isEmpty=false by cases rem with|nil=>simp at hn|cons _ _=>rfl) ?_;refine oU (show 0<rem.length by omega) fun j hj=>?_;have hj':j<rem.length:=hj;refine aa (abb hj') ?_;have hm:=hr _ (acy hj');generalize he:rem[j]=e at hm;obtain⟨z,a⟩:=e;obtain⟨i,hi,ha,hz,haz⟩:=yF h hm;subst ha;obtain⟨k,hk⟩:=Oo h (h.other hz);obtain⟨k',yW,ek,_,hak⟩:=yF h hk;have ek':k'=k:=by omega
  subst ek';refine aa (LQ (hG _ _ rfl) z (h.side hz)) ?_;have pw:j5 bA (ah z) (jo d.1 0)=some (k':Int):=PY h hk;refine af (show(j5 bA (ah z) (jo d.1 0)).isSome=true by rw[pw];rfl) ?_;obtain⟨g',h1,h2,h3,h4⟩:=ago hG g i k' hg.f (by rw[hg.n];exact hi) (by rw[hg.n];exact yW);refine aa (a:=((),(fI g',()))) (by
   have:(j5 bA (ah z) (jo d.1 0)).getD (0:Int)=(k':Int):=by rw[pw];rfl
   rw[←this]at h4;exact h4) ?_
  have amh:BI d (dh d i) (dh d k'):=⟨z,hz,haz,hak⟩;have cij:cI d (dh d (root g i)) (dh d (root g k')):=((hg.c i hi).symm h).trans (amh.conn.trans (hg.c k' yW));refine ih (rem.eraseIdx j) g' _ (by rw[List.length_eraseIdx,if_pos hj'];omega) (fun e he=>hr e (List.mem_of_mem_eraseIdx he)) ⟨h1,h2.trans hg.n,fun q hq=>?_,fun y p q hp hq hy=>?_⟩
  ·rw[h3 q];unfold Fp
   split
   ·rename_i e;refine(hg.c q hq).trans ?_;rw[e];rcases Nat.le_total (root g i) (root g k') with hle|hle
    ·rw[Nat.max_eq_right hle,Nat.min_eq_left hle];exact cij.symm h
    ·rw[Nat.max_eq_left hle,Nat.min_eq_right hle];exact cij
   ·exact hg.c q hq
  ·rw[h3 p,h3 q];by_cases oz:(y,(p:Int))∈rem
   ·
    have e:(y,(p:Int))=(z,(i:Int)):=by apply Classical.byContradiction;intro ne;apply hy;rw[List.mem_eraseIdx_iff_getElem];obtain⟨t,ht,hte⟩:=adk oz;refine⟨t,ht,fun k=>?_,hte⟩;subst k;exact ne (hte.symm.trans he)
    have e1:y=z:=congrArg Prod.fst e;have e2:p=i:=by have:=congrArg Prod.snd e;simp at this;omega
    subst e1;subst e2;have h5:=PY h hq;rw[pw]at h5;have e3:q=k':=by have:=abZ h5;omega
    subst e3;rw[(Fq _ _).1,(Fq _ _).2]
   ·rw[hg.p y p q hp hq oz]
theorem Oq(n:Nat):∀i,root (List.range n) i=i:=fun i=>by
 cases h:(List.range n)[i]? with
 |none=>exact ni h
 |some x =>
  have:x=i:=by rw[List.getElem?_range (by have:=(List.getElem?_eq_some_iff.1 h).1;simpa using this)]at h;exact(abZ h).symm
  subst this;exact nj h
theorem agq(hG:HG G)(d:ak)(h:Wf d):FX G 256 ji ((d,()),())=some ((labels d,()),()):=by
 refine aB (hG _ _ rfl) ae1 ?_;refine YY (G:=G) h ?_ d.1.length 0 (by omega);refine Y0 hG h _ (jo d.1 0) (List.range d.1.length) none rfl (fun _ k=>k) ⟨fun i x hx=>?_,by simp,fun i hi=>?_,fun z i k h1 h2 h3=>absurd h1 h3⟩
 ·have:=(aa9.1 hx).1;rw[List.getElem?_range (by simpa using this)]at hx;have:=abZ hx;omega
 ·rw[Oq];exact .refl _
structure PG(G:(f:FuncId)→(g:aX)→Option (g.A→Option g.B)):Prop where
 h:HG G
 f:∀d,Wf d→FX G 240 Bv ((d,()),())=some ((b5 d,()),())
 c:∀d,Wf d→FX G 241 Bw ((d,()),())=some ((gh d,()),())
theorem agr(hp:PG G)(d:ak)(h:Wf d):FX G 226 La ((d,()),())=some ((((d.1.length:Nat):Int),(((d.2.length:Nat):Int),(((ft d:Nat):Int),(gh d,())))),()):=by
 have hn:=h.nv;have hf:=yE h;have ha:al d.1≤d.1.length:=adq;refine aB (hp.h _ _ rfl) aeU ?_;refine aa (Wq hp.h d.1 (by omega)) ?_;refine aa (hp.f d h) (aa (hp.c d h) ?_);have e:IntKind.wrap .i64 ((((b5 d).length:Nat):Int)+((al d.1:Nat):Int))=((ft d:Nat):Int):=by rw[wrap_small (by omega) (by omega)];rfl
 exact congrArg (fun n:Int=>some ((((d.1.length:Nat):Int),(((d.2.length:Nat):Int),(n,(gh d,())))),())) e
theorem ags(hp:PG G)(d:ak)(h:Wf d):FX G 204 K6 ((d,()),())=some ((bY d,()),()):=by
 have hn:=h.nv;have bq:=h.ne;have hf:=yE h;have ha:al d.1≤d.1.length:=adq;refine aB (hp.h _ _ rfl) aeJ ?_;refine aa (agr hp d h) (ag rfl ?_);have hr:=mg h (fL h);obtain⟨k,e1,e2⟩:=Fj h hr;have ec:=uR h;have SL:(mw d (labels d)).length≤d.1.length:=by unfold mw;rw[List.length_map];refine acX (ac5 _ _) ?_;simp
 have hft:ft d≤80+d.1.length:=by unfold ft;omega
 refine congrArg (fun n:Int=>some ((n,()),())) ?_;show IntKind.wrap .i64 (gh d-IntKind.wrap .i64 (Int.tdiv (IntKind.wrap .i64 ((IntKind.wrap .i64 (((d.1.length:Nat):Int)-((d.2.length:Nat):Int)))+((ft d:Nat):Int))) 2))=bY d;rw[e1,ec];have hk:(k:Int)≤1000:=by omega
 rw[wrap_small (n:=((d.1.length:Nat):Int)-((d.2.length:Nat):Int)) (by omega) (by omega)];rw[wrap_small (n:=((d.1.length:Nat):Int)-((d.2.length:Nat):Int)+((ft d:Nat):Int)) (by omega) (by omega)];have e3:((d.1.length:Nat):Int)-((d.2.length:Nat):Int)+((ft d:Nat):Int)=2*((((mw d (labels d)).length:Nat):Int)-(k:Int)):=by omega
 rw[e3,Int.mul_tdiv_cancel_left _ (by decide)];rw[wrap_small (n:=(((mw d (labels d)).length:Nat):Int)-(k:Int)) (by omega) (by omega)];rw[wrap_small (by omega) (by omega)];omega
theorem Y1(hp:PG G):Oi G:=fun d h=>by refine aB (hp.h _ _ rfl) aes ?_;refine aa (ags hp d h) ?_;refine congrArg (fun b:Bool=>some ((b,()),())) ?_;show(bY d==0)=decide (bY d=0);rw[Bool.eq_iff_iff];simp
end Go.Vs
