/- What the program computes of -/
import Derived.Test.YtoleelddkocpkaaGreatEuler
set_option linter.unusedVariables false
set_option linter.unusedSimpArgs false
namespace Go.Vs
open Go.Proofs
variable {G:(f:FuncId)→(g:aO)→Option (g.A→Option g.B)}
theorem ML(w:ai)(r:List ai)(x:ID):aQ (w::r) x=if w.1=x then some w else aQ r x:=by unfold aQ;rw[List.find?_cons];by_cases h:w.1=x<;>simp[h]
theorem UZ(hG:HG G)(l:List ai)(x:ID)(hl:l.length≤1073741824):FX G 136215 kY ((l,x,()),())=some (qT zV (aQ l x),()):=by
 refine aw (hG _ _ rfl) TZ ?_;have loop:∀(n i:Nat),i+n=l.length→LX G 136215 kY Tryz.f215 mJ (aM Tryz.prog 215 0) ((l,(((l.length:Nat):Int),((i:Int),()))),(((x,()),(((0:Int),((0:Int),(([]:List ab),(e0,((0:Int),()))))),())),()))=some (qT zV (aQ (l.drop i) x),()):=by
  intro n
  induction n with
  |zero =>intro i hi;refine au C1 ?_;refine af (decide_eq_false (show ¬((i:Int)<((l.length:Nat):Int)) by omega)) ?_;rw[List.drop_eq_nil_of_le (by omega)];rfl
  |succ n ih =>
   intro i hi;have aK:i<l.length:=by omega
   have akS:FX G 135 Cx ((l[i],()),())=some ((l[i].1,()),()):=aw (hG _ _ rfl) Y9 rfl;refine au C1 ?_;refine ae (aR aK) (aa (aG (abk aK)) ?_);refine aa akS ?_;rw[List.drop_eq_getElem_cons aK,ML];by_cases he:l[i].1=x
   ·rw[if_pos he];exact ae ((lh l[i].1 x).trans (decide_eq_true he)) rfl
   ·rw[if_neg he];refine af ((lh l[i].1 x).trans (decide_eq_false he)) ?_;have:=ih (i+1) (by omega);rw[←aB aK hl]at this;exact this
 have:=loop l.length 0 (by omega);rw[List.drop_zero]at this;exact this
theorem ae9(hG:HG G)(d:ak)(x:ID)(hs:Sm d):FX G 192 JS ((d,x,()),())=some (qT zV (bj d x),()):=by
 have hv:=hs.v;refine aw (hG _ _ rfl) adw ?_;refine aa (UZ hG d.1 x (by omega)) ?_;unfold bj
 cases hf:aQ d.1 x with
 |none=>exact aa (aaW (hG _ _ rfl) [] (by simp)) rfl
 |some v=>exact aa (aaW (hG _ _ rfl) v.2.1 (hs.r v (dX hf))) rfl
theorem U3(w:ai)(r:List ai)(x:ab):Eh (w::r) x=if x∈w.2.1 then some w.1 else Eh r x:=by unfold Eh;rw[List.find?_cons];by_cases h:x∈w.2.1<;>simp[h]
theorem Zz(hG:HG G)(d:ak)(x:ab)(hs:Sm d):FX G 216 wF ((d,x,()),())=some (qT zI (b8 d x),()):=by
 have hv:=hs.v;refine aw (hG _ _ rfl) adJ ?_;have loop:∀(n i:Nat),i+n=d.1.length→LX G 216 wF Tryz.f216 wQ (aM Tryz.prog 216 0) ((d.1,(((d.1.length:Nat):Int),((i:Int),()))),(((x,()),((zI,()),())),()))=some (qT zI (Eh (d.1.drop i) x),()):=by
  intro n
  induction n with
  |zero =>intro i hi;refine au NP ?_;refine af (decide_eq_false (show ¬((i:Int)<((d.1.length:Nat):Int)) by omega)) ?_;rw[List.drop_eq_nil_of_le (by omega)];rfl
  |succ n ih =>
   intro i hi;have aK:i<d.1.length:=by omega
   refine au NP ?_;refine ae (aR aK) (aa (aG (abk aK)) ?_);refine aa (Ge hG d.1[i].2.1 x (by have:=hs.r _ (ab4 aK);omega)) ?_;rw[List.drop_eq_getElem_cons aK,U3];by_cases he:x∈d.1[i].2.1
   ·rw[if_pos he];exact ae (decide_eq_true he) rfl
   ·rw[if_neg he];refine af (decide_eq_false he) ?_;have:=ih (i+1) (by omega);rw[←aB aK (by omega)]at this;exact this
 have:=loop d.1.length 0 (by omega);rw[List.drop_zero]at this;exact this
def QV(x:ab):List ax→Int→Int
 |[],_ => -1
 |g::r,i=>if g.1=x then i else QV x r (i+1)
theorem KW(x:ab):∀(l:List ax) (i:Nat),(QV x l i = -1∧gS l x=none)∨∃k g,QV x l (i:Int)=((i+k:Nat):Int)∧l[k]? = some g∧gS l x=some g.2
 |[],i=>.inl ⟨rfl,rfl⟩
 |g::r,i=>by
  rw[QV,qy];by_cases h:g.1=x
  ·rw[if_pos h,if_pos h];exact .inr ⟨0,g,by simp,by simp,rfl⟩
  ·rw[if_neg h,if_neg h];have e:(i:Int)+1=((i+1:Nat):Int):=by omega
   rw[e];rcases KW x r (i+1) with⟨h1,h2⟩|⟨k,q,h1,h2,h3⟩
   ·simp_all
   ·exact .inr ⟨k+1,q,by omega,by simpa using h2,h3⟩
theorem U4(hG:HG G)(l:List ax)(x:ab)(hl:l.length≤1073741824):FX G 232230 jI ((l,()),((x,()),()))=some ((QV x l 0,()),((x,()),())):=by
 refine aw (hG _ _ rfl) T1 ?_;have loop:∀(n i:Nat),i+n=l.length→LX G 232230 jI Tryz.f230 kg (aM Tryz.prog 230 0) ((l,(((l.length:Nat):Int),((i:Int),()))),(((x,()),()),()))=some ((QV x (l.drop i) i,()),((x,()),())):=by
  intro n
  induction n with
  |zero =>intro i hi;refine au C3 ?_;refine af (decide_eq_false (show ¬((i:Int)<((l.length:Nat):Int)) by omega)) ?_;rw[List.drop_eq_nil_of_le (by omega)];rfl
  |succ n ih =>
   intro i hi;have aK:i<l.length:=by omega
   have akT:FX G 231 JY ((l[i],()),((x.1.1,(x.1.2,(x.2,()))),()))=some (((((l[i].1.1.1==x.1.1)&&(l[i].1.1.2==x.1.2))&&(l[i].1.2==x.2)),()),((x.1.1,(x.1.2,(x.2,()))),())) :=aw (hG _ _ rfl) adO rfl;refine au C3 ?_;refine ae (aR aK) (aa (aG (abk aK)) ?_);refine aa akT ?_;rw[List.drop_eq_getElem_cons aK,QV];by_cases he:l[i].1=x
   ·rw[if_pos he];exact ae ((lO l[i].1 x).trans (decide_eq_true he)) rfl
   ·rw[if_neg he];refine af ((lO l[i].1 x).trans (decide_eq_false he)) ?_;have:=ih (i+1) (by omega);have e:=aB aK hl;show LX G 232230 jI Tryz.f230 kg (aM Tryz.prog 230 0) ((l,(((l.length:Nat):Int),(IntKind.wrap .i64 ((i:Int)+1),()))),(((x,()),()),()))=some ((QV x (l.drop (i+1)) ((i+1:Nat):Int),()),((x,()),()))
    grind
 have:=loop l.length 0 (by omega);rw[List.drop_zero]at this;exact this
theorem afa(hG:HG G)(l:List ax)(x:ab)(hl:l.length≤1073741824):FX G 217 JW ((l,x,()),())=some (qT zD (gS l x),()):=by
 refine aw (hG _ _ rfl) adK ?_;refine aa (U4 hG l x hl) ?_;rcases KW x l 0 with⟨h1,h2⟩|⟨k,g,h1,h2,h3⟩
 ·have h1:QV x l 0 = -1:=h1;rw[h2];exact ae (decide_eq_true (show QV x l 0<0 by omega)) rfl
 ·have h1:QV x l 0=(k:Int):=by simp_all
  rw[h3];refine af (decide_eq_false (show ¬QV x l 0<0 by omega)) ?_;refine aa (show aW l (QV x l 0)=some g by grind [aG]) ?_;rfl
theorem afb(hG:HG G)(s:StateT)(x:ab)(hs:Sm s.1)(hg:s.2.length≤50000000):FX G 193 zY ((s,x,()),())=some ((resolve s x,()),()):=by
 refine aw (hG _ _ rfl) adx ?_;have hw:IntKind.wrap .i64 (((s.2.length:Nat):Int)+1)=((s.2.length+1:Nat):Int):=by grind [wrap_small]
 have loop:∀(n i:Nat) (y:ab),i+n=s.2.length+1→LX G 193 zY Tryz.f193 wM (aM Tryz.prog 193 0) (((IntKind.wrap .i64 (((s.2.length:Nat):Int)+1)),((i:Int),())),(((s,()),((y,()),((zD,()),()))),()))=some ((res s.1 s.2 n y,()),()):=by
  intro n
  induction n with
  |zero =>intro i y hi;refine au NK ?_;exact af (decide_eq_false (show ¬((i:Int)<IntKind.wrap .i64 (((s.2.length:Nat):Int)+1)) by rw[hw];omega)) rfl
  |succ n ih =>
   intro i y hi;refine au NK ?_;refine ae (decide_eq_true (show((i:Int)<IntKind.wrap .i64 (((s.2.length:Nat):Int)+1)) by rw[hw];omega)) ?_;refine aa (Zz hG s.1 y hs) ?_;rw[res];have h1:(qT zI (b8 s.1 y)).2.1=(b8 s.1 y).isSome:=iK _ _
   cases ha:(b8 s.1 y).isSome
   ·rw[if_neg (by simp)];refine af (h1.trans ha) ?_;refine aa (afa hG s.2 y (by omega)) ?_
    cases hf:gS s.2 y with
    |none=>rfl
    |some z =>
     refine af rfl ?_;have:=ih (i+1) z (by omega);have e:IntKind.wrap .i64 ((i:Int)+1)=((i+1:Nat):Int):=by grind [wrap_small]
     rw[←e]at this;exact this
   ·rw[if_pos rfl];exact ae (h1.trans ha) rfl
 exact loop (s.2.length+1) 0 x (by omega)
theorem afc(hG:HG G)(s:StateT)(c:qP)(hs:Sm s.1)(hg:s.2.length≤50000000):FX G 157 JP ((s,c,()),())=some (bA s c,()):=by
 refine aw (hG _ _ rfl) adh ?_;refine aa (ae9 hG s.1 c.1 hs) ?_;unfold bA
 cases hf:bj s.1 c.1 with
 |none=>rfl
 |some v =>
  refine af rfl ?_;refine aa (afb hG s c.2 hs hg) ?_;refine aa (Ge hG v.2.1 (resolve s c.2) (by have:=hs.r v (dX hf);omega)) ?_;show _=some (((c.1,xe s c v),((0:Int),())),());unfold xe;by_cases hm:resolve s c.2∈v.2.1
  ·simp_all
  ·rw[if_neg hm];exact bu (decide_eq_false hm) rfl
def sD(G:(f:FuncId)→(g:aO)→Option (g.A→Option g.B)):Prop:=∀d,Wf d→FX G 96 zU ((d,()),())=some ((decide (bP d=0),()),())
theorem Ol{l:List ai}{e:List aj}{c:qP}{v:ai}(hs:b6 l)(hf:aQ l c.1=some v)(x:ab):l.set (bS l c.1) (v.1,(nc v.2.1 c.2 x,v.2.2))=(bT (l,e) c x).1:=by
 grind [MC,dd,iC,dX,bT,Vs.cf,ku]
theorem DL{d:ak}(h:Wf d):qi d.1 d.2=true:=by unfold qi;have h1:=h.nv;have h2:=h.ne;simp only[Bool.and_eq_true,decide_eq_true_eq,List.all_eq_true];exact⟨by omega,by omega,fun v hv=>by have:=h.su v hv;omega⟩
theorem XR(hG:HG G)(hp:sD G)(o:bg):gZ G o:=by
 intro s h hm RB;have Nn:=h.d.nv;have bw:=h.d.ne;have hn:=h.n;have XN:=h.d.small;have bL:=UA hm;have start:∀(e:Int) (w:aV),bJ 114 qk Tryz.f114 (FX G) (LX G 114 qk Tryz.f114) ((o,()),(aN s,()))=some ((e,()),(w,()))→FX G 114 qk ((o,()),(aN s,()))=some ((e,()),(w,())):=fun e w a =>aw (hG _ _ rfl) a rfl;have f110:=Zr hG (aN s) (aZ o) h.d.se (by show s.1.2.length≤_;omega);unfold nI
 cases hf:(aY s.1.2 (aZ o)).isSome with
 |true =>have e1:uK (aN s) (aZ o)=(12,aN s):=if_pos hf;rw[e1]at f110;refine⟨12,aN s,start _ _ ((aaz).trans (ae (DL h.d) (aa f110 (ae rfl rfl)))),?_⟩;rw[if_pos (show(gN s.1 (aZ o)).isSome=true from hf)];rfl
 |false =>
 rw[if_neg (show ¬(gN s.1 (aZ o)).isSome=true by show ¬(aY s.1.2 (aZ o)).isSome=true;rw[hf];simp)];by_cases h40:40≤s.1.2.length
 ·have e1:uK (aN s) (aZ o)=(3,aN s):=(if_neg (show ¬(aY s.1.2 (aZ o)).isSome=true by rw[hf];simp)).trans (if_pos h40);rw[e1]at f110;refine⟨3,aN s,start _ _ ((aaz).trans (ae (DL h.d) (aa f110 (ae rfl rfl)))),?_⟩;rw[if_pos h40];rfl
 rw[if_neg h40];obtain⟨E,hE⟩:∃E,E=dv (aZ o,(e0,0)) s.1.2:=⟨_,rfl⟩;have e1:uK (aN s) (aZ o)=(0,(s.1.1,(E,(s.2,())))):=by rw[hE];exact(if_neg (show ¬(aY s.1.2 (aZ o)).isSome=true by rw[hf];simp)).trans (if_neg h40)
 rw[e1]at f110;obtain⟨x,hx⟩:∃x:ab,x=(aZ o,0):=⟨_,rfl⟩;obtain⟨y,hy⟩:∃y:ab,y=(aZ o,1):=⟨_,rfl⟩;have f111:FX G 156 Cs ((aZ o,()),())=some ((x,y,()),()):=by rw[hx,hy];exact aw (hG _ _ rfl) Y8 rfl
 have f112:=fun c:qP=>afc hG s c h.d.sm (by omega);have go:∀(e:Int) (w:aV),LX G 114 qk Tryz.f114 mI (aM Tryz.prog 114 0) (((2:Int),((0:Int),())),(((s.1.1,(E,(s.2,()))),((s,()),((x,()),()))),([x,y],([oA o,oB o],()))))=some ((e,()),(w,()))→FX G 114 qk ((o,()),(aN s,()))=some ((e,()),(w,())):=fun e w a =>start _ _ ((aaz).trans (ae (DL h.d) (aa f110 (af rfl (aa f111 a)))));by_cases hA:(bA s (oA o)).2.1=0
 case neg =>
  rw[if_pos hA];have akU:bA s (oA o)=(zC,(13,())):=by
   unfold bA at hA ⊢
   grind
  refine⟨13,(s.1.1,(E,(s.2,()))),go _ _ ?_,rfl⟩;refine au yz ?_;refine ae rfl (ae rfl (aa (a:=oA o) rfl (aa (f112 (oA o)) ?_)));rw[akU];rfl
 rw[if_neg (fun k=>k hA)];obtain⟨va,ca⟩:=qz hA;obtain⟨cA,hcA⟩:∃c:qP,c=(bA s (oA o)).1:=⟨_,rfl⟩;have eA:bA s (oA o)=(cA,(0,())):=by
  grind
 have cAv:(aQ s.1.1 cA.1).isSome=true:=by rw[hcA,ca];exact va
 obtain⟨v1,xY⟩:=abY.1 cAv;have aa8:=dX xY;obtain⟨d1,QH⟩:∃d1:ak,d1=bT (s.1.1,E) cA x:=⟨_,rfl⟩;have akV:s.1.1.set (bS s.1.1 cA.1) (v1.1,(nc v1.2.1 cA.2 x,v1.2.2))=d1.1:=by rw[QH];exact Ol h.d.sv xY x
 have d1s:b6 d1.1:=by rw[QH];exact h.d.sv.re _ _
 have hl1:=(aby.1 (dd h.d.sv xY)).1;have ZA:∀v∈d1.1,v.2.1.length≤50000000:=fun v hv=>by
  rw[QH]at hv;obtain⟨w,hw,rfl⟩:=abW.1 (show v∈s.1.1.map (tF cA.1 (nc (bF (s.1.1,E) cA.1) cA.2 x)) from hv);have h1:=h.d.su w hw;unfold tF
  split
  ·have h2:=Ac (bF (s.1.1,E) cA.1) cA.2 x;have h3:(bF (s.1.1,E) cA.1).length≤80:=by rw[←iC xY,ku (d:=(s.1.1,E)) h.d.sv aa8];exact h.d.su v1 aa8
   grind
  ·omega
 have d1l:d1.1.length=s.1.1.length:=by grind
 have ZB:∀(e:Int) (w:aV),LX G 114 qk Tryz.f114 mI (aM Tryz.prog 114 0) (((2:Int),((1:Int),())),(((d1.1,(E,(s.2,()))),((s,()),((x,()),()))),([x,y],([oA o,oB o],()))))=some ((e,()),(w,()))→FX G 114 qk ((o,()),(aN s,()))=some ((e,()),(w,())):=fun e w a=>by
  refine go _ _ ?_;refine au yz ?_;refine ae rfl (ae rfl (aa (a:=oA o) rfl (aa (f112 (oA o)) ?_)));rw[eA];refine af rfl (af rfl ?_);refine aa (qU hG (s.1.1,(E,(s.2,()))) cA.1 h.d.sv XN.n) ?_;refine ae (cz (fj _) (aR hl1)) (aa (dd h.d.sv xY) ?_);refine ae rfl (aa (a:=x) rfl ?_);refine aa (Uy hG v1.2.1 cA.2 x (XN.r v1 aa8)) ?_;refine aa (dd h.d.sv xY) ?_;have key:∀a1:List ai,a1=d1.1→LX G 114 qk Tryz.f114 mI (aM Tryz.prog 114 0) (((2:Int),((1:Int),())),(((a1,(E,(s.2,()))),((s,()),((x,()),()))),([x,y],([oA o,oB o],()))))=some ((e,()),(w,())):=fun a1 RD=>by grind
  exact key _ akV
 by_cases hB:(bA s (oB o)).2.1=0
 case neg =>
  rw[if_pos hB];have akW:bA s (oB o)=(zC,(13,())):=by
   unfold bA at hB ⊢
   cases hv:bj s.1 (oB o).1 with
   |none=>rfl
   |some v=>grind
  refine⟨13,(d1.1,(E,(s.2,()))),ZB _ _ ?_,rfl⟩;refine au yz ?_;refine ae rfl (ae rfl (aa (a:=oB o) rfl (aa (f112 (oB o)) ?_)));rw[akW];rfl
 rw[if_neg (fun k=>k hB)];obtain⟨vb,cb⟩:=qz hB;obtain⟨cB,hcB⟩:∃c:qP,c=if(bj s.1 (oB o).1).isSome=true∧(oB o).2=(aZ o,0) then oB o else(bA s (oB o)).1:=⟨_,rfl⟩
 have eB:bA s (oB o)=((bA s (oB o)).1,(0,())):=by
  grind
 have cB1:cB.1=(oB o).1:=by rw[hcB];split;rfl;exact cb
 have cBv:(aQ d1.1 cB.1).isSome=true:=by rw[QH];exact xk _ (by rw[cB1];exact vb)
 obtain⟨v2,AJ⟩:=abY.1 cBv;have afe:=dX AJ;have Aq:=(aby.1 (dd d1s AJ)).1;obtain⟨d2,hd2⟩:∃d2:ak,d2=bT d1 cB y:=⟨_,rfl⟩;have XS:d1.1.set (bS d1.1 cB.1) (v2.1,(nc v2.2.1 cB.2 y,v2.2.2))=d2.1:=by grind [Ol]
 have ZC:gT s o=d2:=by rw[hd2,QH,hcA,hcB,hx,hy,hE];rfl
 have hE2:d2.2=E:=by rw[hd2,QH];rfl
 have hwf:Wf d2:=by
  rw[←ZC];unfold gT;have hn0:aY s.1.2 (aZ o)=none:=by simpa using hf
  refine h.d.link bL hn0 h40 (by grind) ?_;rw[←hcB,cB1];exact vb
 have last:∀(e:Int) (w:aV),LX G 114 qk Tryz.f114 mI (aM Tryz.prog 114 0) (((2:Int),((2:Int),())),(((d2.1,(E,(s.2,()))),((s,()),((x,()),()))),([x,y],([oA o,oB o],()))))=some ((e,()),(w,()))→FX G 114 qk ((o,()),(aN s,()))=some ((e,()),(w,())):=fun e w a=>by
  refine ZB _ _ ?_;refine au yz ?_;refine ae rfl (ae rfl (aa (a:=oB o) rfl (aa (f112 (oB o)) ?_)));rw[eB];have key:∀a2:List ai,a2=d2.1→LX G 114 qk Tryz.f114 mI (aM Tryz.prog 114 0) (((2:Int),((2:Int),())),(((a2,(E,(s.2,()))),((s,()),((x,()),()))),([x,y],([oA o,oB o],()))))=some ((e,()),(w,())):=fun a2 RE=>by grind
  refine af rfl (ae rfl ?_);have q7:=lO (oB o).2 x;by_cases hbe:(oB o).2=x
  ·have ecB:cB=oB o:=by grind
   refine ae (q7.trans (decide_eq_true hbe)) ?_;rw[ecB]at AJ Aq XS;refine aa (qU hG (d1.1,(E,(s.2,()))) (oB o).1 d1s (by grind)) ?_;refine ae (cz (fj _) (aR Aq)) (aa (dd d1s AJ) ?_);refine ae rfl (aa (a:=y) rfl ?_);refine aa (Uy hG v2.2.1 (oB o).2 y (ZA v2 afe)) ?_;refine aa (dd d1s AJ) ?_;exact key _ XS
  ·have ecB:cB=(bA s (oB o)).1:=by grind
   refine af (q7.trans (decide_eq_false hbe)) ?_;rw[ecB]at AJ Aq XS;refine aa (qU hG (d1.1,(E,(s.2,()))) (bA s (oB o)).1.1 d1s (by grind)) ?_;refine ae (cz (fj _) (aR Aq)) (aa (dd d1s AJ) ?_);refine ae rfl (aa (a:=y) rfl ?_);refine aa (Uy hG v2.2.1 (bA s (oB o)).1.2 y (ZA v2 afe)) ?_;refine aa (dd d1s AJ) ?_;exact key _ XS
 have f114:=hp d2 hwf;rw[ZC];have e2:(d2.1,E)=d2:=by rw[←hE2]
 by_cases hg:bP d2=0
 ·rw[if_neg (fun k=>k hg)];refine⟨0,(d2.1,(E,(s.2,()))),last _ _ ?_,?_⟩
  ·refine au yz ?_;refine af rfl ?_;have key:∀q:ak,q=d2→((FX G 96 zU ((q,()),())).bind fun(Kb:((Bool×Unit)×Unit))=>cond (not Kb.1.1) (some (((15:Int),()),((d2.1,(E,(s.2,()))),()))) (some (((0:Int),()),((d2.1,(E,(s.2,()))),()))))=some (((0:Int),()),((d2.1,(E,(s.2,()))),())):=fun q hq=>by subst hq;exact aa f114 (bu (decide_eq_true hg) rfl)
   exact key _ e2
  ·show(A8 (d2.1,(E,(s.2,()))),((0:Int),()))=((d2,s.2),(0,()));show(((d2.1,E),s.2),((0:Int),()))=((d2,s.2),(0,()));rw[e2]
 ·rw[if_pos hg];refine⟨15,(d2.1,(E,(s.2,()))),last _ _ ?_,rfl⟩;refine au yz ?_;refine af rfl ?_;have key:∀q:ak,q=d2→((FX G 96 zU ((q,()),())).bind fun(Kb:((Bool×Unit)×Unit))=>cond (not Kb.1.1) (some (((15:Int),()),((d2.1,(E,(s.2,()))),()))) (some (((0:Int),()),((d2.1,(E,(s.2,()))),()))))=some (((15:Int),()),((d2.1,(E,(s.2,()))),())):=fun q hq=>by subst hq;exact aa f114 (bu (decide_eq_false hg) rfl)
  exact key _ e2
theorem aff(hG:HG G)(row:List ab)(d:ab)(hl:row.length≤100000000):FX G 245 J1 ((row,d,()),())=some (Kp (dp row d 1),()):=by
 refine aw (hG _ _ rfl) adW ?_;have key:FX G 221 Cz ((row,(d,((1:Int),()))),())=some (Kp (dp row d 1),()):=by
  refine aw (hG _ _ rfl) Za ?_;refine aa (Dl (hG _ _ rfl) row d (by omega)) ?_;unfold dp;by_cases hd:d∈row
  ·rw[if_pos hd];obtain⟨k,h1,h2,h3⟩:=eg hd;have aK:=(aby.1 h2).1;refine af (decide_eq_false (show ¬idx d row 0<0 by omega)) ?_;refine af (HS hd) ?_;have Mn:IntKind.wrap .i64 (idx d row 0+1)=((k+1:Nat):Int):=by grind [wrap_small]
   have yF:(k+1)%row.length<row.length:=acV _ (by omega);have hx:=abk yF;refine aa (show aW row (Int.tmod (IntKind.wrap .i64 (idx d row 0+1)) ((row.length:Nat):Int))=some row[(k+1)%row.length] by rw[Mn,sj];exact aG hx) ?_;rw[h1,Int.toNat_natCast,hx];rfl
  ·rw[if_neg hd];exact ae (decide_eq_true (eR.2 hd)) rfl
 refine aa key ?_;rfl
def KX(x:ab):List ai→Option ab
 |[]=>none
 |v::r=>if x∈v.2.1 then dp v.2.1 x 1 else KX x r
theorem Om{l:List ai}(h:Rw l){v:ai}{x:ab}(hv:v∈l)(hx:x∈v.2.1):∀r,(∀u∈r,u∈l)→v∈r→KX x r=dp v.2.1 x 1
 |[],_,k=>by cases k
 |u::r,hs,k=>by
  rw[KX];by_cases hu:x∈u.2.1
  ·rw[if_pos hu,h.one hv (hs u List.mem_cons_self) hx hu]
  ·rw[if_neg hu];rcases abM.1 k with e|k
   ·rw[e]at hx;exact absurd hx hu
   ·exact Om h hv hx r (fun w hw=>hs w (abq _ hw)) k
theorem GA{x:ab}:∀{l:List ai},x∉an l→KX x l=none
 |[],_=>rfl
 |v::r,h=>by simp_all [eI,List.mem_append,KX,if_neg,GA]
theorem MM{d:ak}(h:Rw d.1)(x:ab):KX x d.1=jY d x:=by
 by_cases hx:x∈an d.1
 ·obtain⟨v,hv,od⟩:=aS.1 hx
  grind [DC,Om]
 grind [GA,jY,b8,KD]
theorem afg(hG:HG G)(d:ak)(x:ab)(hs:Sm d)(h:Rw d.1):FX G 240 z6 ((d,x,()),())=some (Kp (jY d x),()):=by
 have hv:=hs.v;rw[←MM h x];refine aw (hG _ _ rfl) adT ?_;have loop:∀(n i:Nat),i+n=d.1.length→LX G 240 z6 Tryz.f240 wU (aM Tryz.prog 240 0) ((d.1,(((d.1.length:Nat):Int),((i:Int),()))),(((x,()),((zD,()),())),()))=some (Kp (KX x (d.1.drop i)),()):=by
  intro n
  induction n with
  |zero =>intro i hi;refine au NV ?_;refine af (decide_eq_false (show ¬((i:Int)<((d.1.length:Nat):Int)) by omega)) ?_;rw[List.drop_eq_nil_of_le (by omega)];rfl
  |succ n ih =>
   intro i hi;have aK:i<d.1.length:=by omega
   refine au NV ?_;refine ae (aR aK) (aa (aG (abk aK)) ?_);refine aa (aff hG d.1[i].2.1 x (by have:=hs.r _ (ab4 aK);omega)) ?_;rw[List.drop_eq_getElem_cons aK,KX];by_cases he:x∈d.1[i].2.1
   ·rw[if_pos he];unfold dp;rw[if_pos he];obtain⟨k,h1,h2,h3⟩:=eg he;have hl:=(aby.1 h2).1;have hm:((idx x d.1[i].2.1 0).toNat+1)%d.1[i].2.1.length<d.1[i].2.1.length:=acV _ (by omega);rw[List.getElem?_eq_getElem hm];rfl
   ·rw[if_neg he];unfold dp;rw[if_neg he];refine af rfl ?_;have:=ih (i+1) (by omega);rw[←aB aK (by omega)]at this;exact this
 have:=loop d.1.length 0 (by omega);rw[List.drop_zero]at this;exact this
theorem at_mem{d:ak}{x:ab}(h:(b8 d x).isSome=true):x∈an d.1:=by
 apply Classical.byContradiction
 grind [b8,KD]
theorem afh(hG:HG G)(d:ak)(x:ab)(h:Wf d):FX G 235 FY ((d,x,()),())=some (Kp (IB d x),()):=by
 have hs:=h.sm;refine aw (hG _ _ rfl) adR ?_;refine aa (Zz hG d x hs) ?_;have h1:(qT zI (b8 d x)).2.1=(b8 d x).isSome:=iK _ _;unfold IB
 cases ha:(b8 d x).isSome
 ·rw[if_neg (by simp)];exact bu (h1.trans ha) rfl
 ·rw[if_pos rfl];refine bu (h1.trans ha) ?_;refine aa (KI (hG _ _ rfl) x (h.side (at_mem ha))) ?_;exact aa (afg hG d (ag x) hs h.rw) rfl
theorem afi(hG:HG G)(d:ak)(hs:Sm d):FX G 223 wG ((d,()),())=some ((eT d.2,()),()):=by
 have he:=hs.e;refine aw (hG _ _ rfl) adQ ?_;have loop:∀(n i:Nat) (out:List ab),i+n=d.2.length→out.length=2*i→LX G 223 wG Tryz.f223 wR (aM Tryz.prog 223 0) ((d.2,(((d.2.length:Nat):Int),((i:Int),()))),((),(out,())))=some ((out++eT (d.2.drop i),()),()):=by
  intro n
  induction n with
  |zero =>intro i out hi ho;refine au NQ ?_;refine af (decide_eq_false (show ¬((i:Int)<((d.2.length:Nat):Int)) by omega)) ?_;rw[List.drop_eq_nil_of_le (by omega)];show some ((out,()),())=some ((out++[],()),());simp_all
  |succ n ih =>
   intro i out hi ho;have aK:i<d.2.length:=by omega
   refine au NQ ?_;refine ae (aR aK) (aa (aG (abk aK)) ?_);refine aa (KI (hG _ _ rfl) (d.2[i].1,0) (.inl rfl)) ?_;refine ae (fits (by show out.length+2≤_;omega)) ?_;have:=ih (i+1) (out++[(d.2[i].1,0),(d.2[i].1,1)]) (by omega) (by simp[ho];omega);rw[List.drop_eq_getElem_cons aK];rw[←aB aK (by omega),List.append_assoc]at this;exact this
 exact loop d.2.length 0 [] (by omega) rfl
theorem U5(hG:HG G)(l:List ai)(hl:l.length≤50000000):FX G 207205 kZ ((l,()),())=some ((((al l:Nat):Int),()),()):=by
 refine aw (hG _ _ rfl) T2 ?_;have loop:∀(n i m:Nat),i+n=l.length→m≤i→LX G 207205 kZ Tryz.f205 kh (aM Tryz.prog 205 0) (((m:Int),(l,(((l.length:Nat):Int),((i:Int),())))),((),()))=some ((((m+al (l.drop i):Nat):Int),()),()):=by
  intro n
  induction n with
  |zero =>intro i m hi hm;refine au C4 ?_;refine af (decide_eq_false (show ¬((i:Int)<((l.length:Nat):Int)) by omega)) ?_;rw[List.drop_eq_nil_of_le (by omega)];rfl
  |succ n ih =>
   intro i m hi hm;have aK:i<l.length:=by omega
   have akZ:FX G 206 JZ ((l[i],()),())=some ((l[i].2.1.isEmpty,()),()):=by
    refine aw (hG _ _ rfl) adP ?_;have:(((l[i].2.1.length:Nat):Int)==0)=l[i].2.1.isEmpty:=by cases l[i].2.1<;>simp;omega
    exact congrArg (fun b:Bool=>some ((b,()),())) this
   refine au C4 ?_;refine ae (aR aK) (aa (aG (abk aK)) ?_);refine aa akZ ?_;rw[List.drop_eq_getElem_cons aK];unfold al;rw[List.countP_cons]
   cases hb:l[i].2.1.isEmpty
   ·refine af rfl ?_;have:=ih (i+1) m (by omega) (by omega);rw[←aB aK (by omega)]at this;exact this
   ·refine ae rfl ?_;have:=ih (i+1) (m+1) (by omega) (by omega);rw[←aB aK (by omega),←aB (i:=m) (n:=l.length) (by omega) (by omega)]at this;refine this.trans ?_;refine congrArg (fun q:Nat=>some ((((q:Nat):Int),()),())) ?_
    grind [al]
 have:=loop l.length 0 0 (by omega) (by omega);rw[List.drop_zero,Nat.zero_add]at this;exact this
def Fo(g:List Nat):Prop:=∀(i x:Nat),g[i]? = some x→x≤i
def root(g:List Nat)(i:Nat):Nat :=match g[i]? with
 |some x=>if h:x<i then root g x else i
 |none=>i
termination_by i
theorem dY{g:List Nat}{i x:Nat}(h:g[i]? = some x):root g i=if x<i then root g x else i:=by rw[root,h];simp
theorem tS{g:List Nat}{i:Nat}(h:g[i]? = none):root g i=i:=by rw[root,h]
theorem On(g:List Nat):∀i,root g i≤i:=by
 intro i
 induction i using Nat.strongRecOn with
 |_ i ih =>
  cases h:g[i]? with
  |none=>rw[tS h];omega
  |some x =>
   rw[dY h]
   grind
theorem KY{g:List Nat}(hf:Fo g):∀i,i<g.length→g[root g i]? = some (root g i):=by
 intro i
 induction i using Nat.strongRecOn with
 |_ i ih =>
  intro hi;have h:=abk hi;rw[dY h]
  split
  ·grind
  ·have:=hf i _ h
   grind
theorem l8{g:List Nat}{i:Nat}(h:g[i]? = some i):root g i=i:=by simp_all [dY,if_neg]
theorem Fo.set{g:List Nat}(hf:Fo g){i y:Nat}(h:y≤i):Fo (g.set i y):=fun j x hj=>by
 rw[List.getElem?_set]at hj
 split at hj
 ·simp_all
 ·exact hf j x hj
theorem MN{g:List Nat}(hf:Fo g){i x y:Nat}(hi:g[i]? = some x)(hx:g[x]? = some y)(aK:x<i):∀j,root (g.set i y) j=root g j:=by
 have hyx:=hf x y hx;have qO:=(aby.1 hi).1;intro j
 induction j using Nat.strongRecOn with
 |_ j ih =>
  by_cases e:j=i
  ·subst e;have h1:(g.set j y)[j]? = some y:=by simp_all
   rw[dY h1,if_pos (by omega),ih y (by omega),dY hi,if_pos aK,dY hx]
   grind [l8]
  ·have h1:(g.set i y)[j]? = g[j]? := by grind
   cases h:g[j]? with
   |none=>grind [tS]
   |some z =>simp_all [dY]
theorem QW{g:List Nat}{a b:Nat}(ha:g[a]? = some a)(hb:g[b]? = some b):∀j,root (g.set (max a b) (min a b)) j=if root g j=max a b then min a b else root g j:=by
 have hm:g[max a b]? = some (max a b):=by grind
 have hn:g[min a b]? = some (min a b):=by grind
 have hml:=(aby.1 hm).1;have hle:min a b≤max a b:=by omega
 generalize max a b=M at *;generalize min a b=m at *;have aK:∀j,(g.set M m)[j]? = if j=M then some m else g[j]? := fun j=>by
  grind
 intro j
 induction j using Nat.strongRecOn with
 |_ j ih =>
  by_cases ej:j=M
  ·subst ej;have h1:(g.set j m)[j]? = some m:=by simp_all
   rw[dY h1,l8 hm,if_pos rfl];by_cases e:m<j
   ·simp_all [if_pos,l8,if_neg]
   grind
  ·have h1:(g.set M m)[j]? = g[j]? := by simp_all
   cases h:g[j]? with
   |none=>simp_all [tS,if_neg]
   |some z =>
    rw[dY h,dY (h1.trans h)]
    grind
def fI(g:List Nat):List Int:=g.map fun n=>((n:Nat):Int)
theorem DM(g:List Nat):(fI g).length=g.length:=by simp[fI]
theorem vG{g:List Nat}{i x:Nat}(h:g[i]? = some x):(fI g)[Int.toNat (i:Int)]? = some (x:Int):=by simp[fI,h]
theorem U6(g:List Nat)(i x:Nat):(fI g).set (Int.toNat (i:Int)) (x:Int)=fI (g.set i x):=by simp[fI,List.map_set]
theorem DN{g:List Nat}{i:Nat}(h:i<g.length):(decide ((0:Int)≤(i:Int))&&decide ((i:Int)<(((fI g).length:Nat):Int)))=true:=by
 grind [DM,cz,fj,aR]
structure GB(g g':List Nat):Prop where
 f:Fo g'
 n:g'.length=g.length
 r:∀j,root g' j=root g j
theorem GB.trans{a b c:List Nat}(h:GB a b)(k:GB b c):GB a c:=⟨k.f,k.n.trans h.n,fun j=>(k.r j).trans (h.r j)⟩
theorem U7(hG:HG G)(g:List Nat)(i:Nat)(hf:Fo g)(hi:i<g.length):∃g',GB g g'∧FX G 242 rT (((i:Int),()),(fI g,()))=some ((((root g i:Nat):Int),()),(fI g',())):=by
 have loop:∀(i:Nat) (g:List Nat),Fo g→i<g.length→∃g',GB g g'∧LX G 242 rT Tryz.f242 tu (aM Tryz.prog 242 0) (((i:Int),()),((),(fI g,())))=some ((((root g i:Nat):Int),()),(fI g',())):=by
  intro i
  induction i using Nat.strongRecOn with
  |_ i ih =>
   intro g hf hi;have h:=abk hi;generalize g[i]=x at h;have hxi:=hf i x h;by_cases hx:x<i
   ·have h2:=abk (show x<g.length by omega);generalize g[x]=y at h2;have hyx:=hf x y h2;have hs:=MN hf h h2 hx;have hf2:Fo (g.set i y):=hf.set (by omega);obtain⟨g',h3,h4⟩:=ih y (by omega) (g.set i y) hf2 (by grind);refine⟨g',⟨h3.f,by rw[h3.n,List.length_set],fun j=>(h3.r j).trans (hs j)⟩,?_⟩;refine au NW ?_;refine ae (DN hi) (aa (vG h) ?_);refine ae (show(((x:Nat):Int) != (i:Int))=true by grind) ?_;refine ae (DN hi) (aa (vG h) ?_);refine ae (DN (show x<g.length by omega)) (aa (vG h2) ?_);refine ae (DN hi) (aa (vG h) ?_);have ak0:=U6 g i y;have key:∀f:List Int,f=fI (g.set i y)→cond ((decide ((0:Int)≤(i:Int)))&&(decide ((i:Int)<(((List.length f):Nat):Int)))) (((f)[(Int.toNat (i:Int))]?).bind fun(y5:Int)=>LX G 242 rT Tryz.f242 tu (aM Tryz.prog 242 0) ((y5,()),((),(f,())))) none=some ((((root g i:Nat):Int),()),(fI g',())):=fun f hf=>by
     subst hf;refine ae (DN (by simp_all)) (aa (vG (x:=y) (by simp_all)) ?_);rw[h4,hs y,dY h,if_pos hx,dY h2];by_cases hy:y<x
     ·rw[if_pos hy]
     ·have:y=x:=by omega
      subst this;rw[if_neg (by omega),l8 h2]
    exact key _ ak0
   ·have:x=i:=by omega
    subst this;refine⟨g,⟨hf,rfl,fun _=>rfl⟩,?_⟩;refine au NW ?_;refine ae (DN hi) (aa (vG h) ?_);rw[l8 h];exact af (by simp) rfl
 obtain⟨g',h1,h2⟩:=loop i g hf hi;exact⟨g',h1,aw (hG _ _ rfl) adV h2⟩
def DO(a b r:Nat):Nat:=if r=max a b then min a b else r
theorem afj(hG:HG G)(g:List Nat)(i k:Nat)(hf:Fo g)(hi:i<g.length)(hk:k<g.length):∃g',Fo g'∧g'.length=g.length∧(∀j,root g' j=DO (root g i) (root g k) (root g j))∧FX G 241 J0 (((i:Int),((k:Int),())),(fI g,()))=some ((),(fI g',())):=by
 obtain⟨g1,h1,e1⟩:=U7 hG g i hf hi;obtain⟨g2,h2,e2⟩:=U7 hG g1 k h1.f (by rw[h1.n];exact hk);rw[h1.r k]at e2;have hs:=h1.trans h2;have ra:g2[root g i]? = some (root g i):=by have:=KY hs.f i (by rw[hs.n];exact hi);rw[hs.r i]at this;exact this
 have rb:g2[root g k]? = some (root g k):=by have:=KY hs.f k (by rw[hs.n];exact hk);rw[hs.r k]at this;exact this
 have hal:=(aby.1 ra).1;have hbl:=(aby.1 rb).1;have hm:max (root g i) (root g k)<g2.length:=by omega
 refine⟨g2.set (max (root g i) (root g k)) (min (root g i) (root g k)),hs.f.set (by omega),by rw[List.length_set,hs.n],fun j=>by rw[QW ra rb j,hs.r j];rfl,?_⟩;refine aw (hG _ _ rfl) adU ?_;refine aa e1 (aa e2 ?_);have em:(max ((root g i:Nat):Int) ((root g k:Nat):Int):Int)=((max (root g i) (root g k):Nat):Int):=by omega
 have en:(min ((root g i:Nat):Int) ((root g k:Nat):Int):Int)=((min (root g i) (root g k):Nat):Int):=by omega
 have key:∀m n:Int,m=((max (root g i) (root g k):Nat):Int)→n=((min (root g i) (root g k):Nat):Int)→cond ((decide ((0:Int)≤m))&&(decide (m<(((List.length (fI g2)):Nat):Int)))) (((fI g2)[(Int.toNat m)]?).bind fun(y3:Int)=>(some ((),((List.set (fI g2) (Int.toNat m) n),())):Option (Unit×((List Int)×Unit)))) none=some ((),(fI (g2.set (max (root g i) (root g k)) (min (root g i) (root g k))),())):=fun m n YG Pf=>by subst YG Pf;refine ae (DN hm) (aa (vG (abk hm)) ?_);rw[U6]
 exact key _ _ em en
theorem DP{α:Type}(x:ab)(es:List (ab×α)):rq bf x es=es.findIdx? fun e=>decide (e.1=x):=by
 show List.findIdx? (fun e:ab×α=>((x.1.1==e.1.1.1)&&(x.1.2==e.1.1.2))&&(x.2==e.1.2)) es=_
 grind
def fa{β α:Type}[DecidableEq β](x:β):List (β×α)→Option α
 |[]=>none
 |e::r=>if e.1=x then some e.2 else fa x r
theorem MO{β α:Type}[DecidableEq β](x:β):∀es:List (β×α),((es.findIdx? fun e=>decide (e.1=x)).bind fun i=>(es[i]?).map (·.2))=fa x es
 |[]=>rfl
 |e::r=>by
  have ih:=MO x r;rw[List.findIdx?_cons,fa];by_cases h:e.1=x
  ·simp_all
  ·rw[if_neg (by simpa using h),if_neg h,←ih]
   cases r.findIdx? fun e=>decide (e.1=x)<;>simp
theorem MP{α:Type}(x:ab)(es:List (ab×α)):fm bf x es=fa x es:=by have:=MO x es;rw[←DP]at this;exact this
theorem KZ{α:Type}{x:ab}(v:α){es:List (ab×α)}(h:x∉es.map (·.1)):jx bf x v es=es++[(x,v)]:=by
 have e:rq bf x es=none:=by rw[DP,List.findIdx?_eq_none_iff];intro q hq;exact decide_eq_false fun k=>h (abW.2 ⟨q,hq,k⟩)
 unfold jx
 split
 ·rename_i i k;rw[e]at k;cases k
 ·rfl
theorem K0{β α:Type}[DecidableEq β]{x:β}{v:α}:∀{es:List (β×α)},(es.map (·.1)).Nodup→(x,v)∈es→fa x es=some v
 |[],_,h=>by cases h
 |e::r,hn,h=>by
  simp only[List.map_cons,List.nodup_cons]at hn;rw[fa];rcases abM.1 h with e1|h
  ·grind
  ·rw[if_neg (fun k=>hn.1 (by simp_all))];exact K0 hn.2 h
def iD:List ai→Nat→List (ab×Int)
 |[],_=>[]
 |v::r,i=>v.2.1.map (fun x=>(x,(i:Int)))++iD r (i+1)
theorem yV:∀(l:List ai) (i:Nat),(iD l i).map (·.1)=an l
 |[],_=>rfl
 |v::r,i=>by
  have e:(v.2.1.map fun x=>(x,(i:Int))).map (·.1)=v.2.1:=by rw[List.map_map];exact List.map_id _
  rw[iD,eI,List.map_append,yV r,e]
theorem K1:∀(a b:List ai) (i:Nat),iD (a++b) i=iD a i++iD b (i+a.length)
 |[],b,i=>rfl
 |v::r,b,i=>by rw[List.cons_append,iD,iD,K1 r b,List.append_assoc];congr 3;simp;omega
theorem K2{x:ab}{a:Int}:∀{l:List ai} {i:Nat},(x,a)∈iD l i→∃k v,l[k]? = some v∧a=((i+k:Nat):Int)∧x∈v.2.1
 |[],i,h=>by cases h
 |v::r,i,h=>by
  rw[iD]at h;rcases abU.1 h with h|h
  ·grind
  ·obtain⟨k,u,h1,h2,h3⟩:=K2 h;exact⟨k+1,u,by simpa using h1,by omega,h3⟩
theorem Oo{x:ab}:∀{l:List ai} {i k:Nat} {v:ai},l[k]? = some v→x∈v.2.1→(x,((i+k:Nat):Int))∈iD l i
 |v::r,i,0,u,h,hx=>by simp at h;subst h;rw[iD];exact abO _ (abW.2 ⟨x,hx,rfl⟩)
 |v::r,i,k+1,u,h,hx=>by
  rw[iD];refine abN _ ?_;have:=Oo (i:=i+1) (k:=k) (by simpa using h) hx
  rwa [show i+1+k=i+(k+1) by omega]at this
theorem U8(i:Nat):fI (List.range i)++[(i:Int)]=fI (List.range (i+1)):=by rw[List.range_succ];simp[fI]
section
variable {d:ak} {y:ij.B}
theorem XT(h:Wf d){i:Nat}(hi:i<d.1.length){f:List Int}{nn:Int} (next:LX G 236 ij Tryz.f236 tp (aM Tryz.prog 236 0) ((d.1,(nn,((IntKind.wrap .i64 ((i:Int)+1)),()))),((),(f,(iD (d.1.take (i+1)) 0,()))))=some y):∀(n j:Nat) (es:List (ab×Int)),j+n=d.1[i].2.1.length→es=iD (d.1.take i) 0++(d.1[i].2.1.take j).map (fun x=>(x,(i:Int))) → LX G 236 ij Tryz.f236 wS (aM Tryz.prog 236 1) (((i:Int),(d.1,(nn,((i:Int),(d.1[i].2.1,(((d.1[i].2.1.length:Nat):Int),((j:Int),()))))))),((),(f,(es,()))))=some y:=by
 have hr:=h.su d.1[i] (ab4 hi);have et:d.1.take (i+1)=d.1.take i++[d.1[i]]:=(List.take_append_getElem hi).symm;have ev:iD (d.1.take (i+1)) 0=iD (d.1.take i) 0++d.1[i].2.1.map (fun x=>(x,(i:Int))):=by
  rw[et,K1];have:(d.1.take i).length=i:=by rw[List.length_take];omega
  rw[this,Nat.zero_add];congr 1;show d.1[i].2.1.map (fun x=>(x,(i:Int)))++[]=_;rw[List.append_nil]
 have nd:(an (d.1.take i)++d.1[i].2.1).Nodup:=by
  have h1:=h.rw.n;rw[←List.take_append_drop (i+1) d.1,et,kr,kr]at h1;have e2:an [d.1[i]]=d.1[i].2.1:=by rw[eI];exact List.append_nil _
  rw[e2]at h1;exact(acf.1 h1).1
 intro n
 induction n with
 |zero =>intro j es hj he;refine au NS ?_;refine af (decide_eq_false (show ¬((j:Int)<((d.1[i].2.1.length:Nat):Int)) by omega)) ?_;have e:d.1[i].2.1.take j=d.1[i].2.1:=List.take_of_length_le (by omega);rw[e,←ev]at he;subst he;exact next
 |succ n ih =>
  intro j es hj he;have aK:j<d.1[i].2.1.length:=by omega
  refine au NS ?_;refine ae (aR aK) (aa (aG (abk aK)) ?_);have BH:d.1[i].2.1[j]∉es.map (·.1):=by
   have e3:((d.1[i].2.1.take j).map fun x=>(x,(i:Int))).map (·.1)=d.1[i].2.1.take j:=by rw[List.map_map];exact List.map_id _
   rw[he,List.map_append,yV,e3,List.mem_append];rintro(k|k)
   ·exact(acf.1 nd).2.2 _ k _ (ab4 aK) rfl
   ·obtain⟨q,hq,he⟩:=acY k;have hq1:q<j:=by rw[List.length_take]at hq;omega
    rw[List.getElem_take]at he;have:=(List.getElem_inj (acf.1 nd).2.1).1 he;omega
  have:=ih (j+1) (jx bf d.1[i].2.1[j] (i:Int) es) (by omega) (by rw[KZ _ BH,he,←List.take_append_getElem aK,List.map_append,List.append_assoc];rfl);rw[←aB aK (by omega)]at this;exact this
theorem XU(h:Wf d) (next:LX G 236 ij Tryz.f236 ql (aM Tryz.prog 236 2) ((iD d.1 0,()),((),(fI (List.range d.1.length),((none,iD d.1 0),()))))=some y):∀(n i:Nat),i+n=d.1.length → LX G 236 ij Tryz.f236 tp (aM Tryz.prog 236 0) ((d.1,(((d.1.length:Nat):Int),((i:Int),()))),((),(fI (List.range i),(iD (d.1.take i) 0,()))))=some y:=by
 have hn:=h.nv;intro n
 induction n with
 |zero =>
  intro i hi;have e:i=d.1.length:=by omega
  subst e;refine au NR ?_;refine af (decide_eq_false (show ¬(((d.1.length:Nat):Int)<((d.1.length:Nat):Int)) by omega)) ?_;rw[List.take_length];exact next
 |succ n ih =>
  intro i hi;have aK:i<d.1.length:=by omega
  refine au NR ?_;refine ae (aR aK) (aa (aG (abk aK)) ?_);refine ae (fits (by grind [fI,List.range,DM])) ?_;have nx:=ih (i+1) (by omega);rw[←aB aK (by omega),←U8]at nx;exact XT (G:=G) h aK nx d.1[i].2.1.length 0 _ (by omega) (by simp)
end
end Go.Vs
namespace Go.Vs
open Go.Proofs
variable {G:(f:FuncId)→(g:aO)→Option (g.A→Option g.B)}
theorem MQ(a b:Nat):DO a b a=min a b∧DO a b b=min a b:=by
 grind [DO]
structure FoI(d:ak)(rem:List (ab×Int))(g:List Nat):Prop where
 f:Fo g
 n:g.length=d.1.length
 c:∀i,i<d.1.length→ck d (cP d i) (cP d (root g i))
 p:∀(z:ab) (i k:Nat),(z,(i:Int))∈iD d.1 0→(ag z,(k:Int))∈iD d.1 0→(z,(i:Int))∉rem→root g i=root g k
theorem xn{d:ak}(h:Wf d){z:ab}{a:Int}(hm:(z,a)∈iD d.1 0):∃i:Nat,i<d.1.length∧a=(i:Int)∧z∈an d.1∧b8 d z=some (cP d i):=by obtain⟨k,v,h1,h2,h3⟩:=K2 hm;rw[Nat.zero_add]at h2;have hv:=ab3 h1;refine⟨k,(aby.1 h1).1,h2,aS.2 ⟨v,hv,h3⟩,?_⟩;rw[qB h1];exact eJ h.rw hv h3
theorem MR{d:ak}(h:Wf d){z:ab}(hz:z∈an d.1):∃i:Nat,(z,(i:Int))∈iD d.1 0:=by
 obtain⟨v,hv,hx⟩:=aS.1 hz;obtain⟨k,hk⟩:=acx hv;have:=Oo (i:=0) hk hx
 grind
theorem Oq{d:ak}(h:Wf d){z:ab}{a:Int}(hm:(z,a)∈iD d.1 0):fm bf z (iD d.1 0)=some a:=by rw[MP];refine K0 ?_ hm;rw[yV];exact h.rw.n
theorem FoI.same{d:ak}(h:Wf d){g:List Nat}(hg:FoI d [] g){a b:ID}(k:ck d a b):∀i j,i<d.1.length→j<d.1.length→cP d i=a→cP d j=b→root g i=root g j:=by
 induction k with
 |refl=>intro i j hi hj h1 h2;rw[jS h.sv hi hj (h1.trans h2.symm)]
 |tail _ s ih =>
  intro i j hi hj h1 h2;obtain⟨z,hz,s1,s2⟩:=s;obtain⟨m,hm⟩:=MR h hz;obtain⟨q,hq⟩:=MR h (h.other hz);obtain⟨m',m1,m2,_,m3⟩:=xn h hm;obtain⟨q',q1,q2,_,q3⟩:=xn h hq;have em:m'=m:=by omega
  have eq:q'=q:=by omega
  subst em;subst eq;rw[s1]at m3;rw[s2]at q3;have r1:=ih i m' hi m1 h1 (ab2 m3).symm;have r2:=hg.p z m' q' hm hq (by simp);have ej:q'=j:=jS h.sv q1 hj ((ab2 q3).symm.trans h2.symm);simp_all
theorem FoI.can{d:ak}(h:Wf d){g:List Nat}(hg:FoI d [] g):KU d (fI ((List.range d.1.length).map (root g))):=by
 have vU:∀i,i<d.1.length→(fI ((List.range d.1.length).map (root g))).getD i 0=((root g i:Nat):Int):=fun i hi=>by
  grind [fI,List.getD]
 refine⟨⟨by rw[DM];simp,fun i hi=>⟨root g i,On g i,vU i hi,hg.c i hi⟩⟩,fun i hi j hj k=>?_⟩;rw[vU i hi,hg.same h k i j hi hj rfl rfl]
 grind [On]
theorem XV(hG:HG G){d:ak}(h:Wf d){g:List Nat}:∀(n i:Nat) (g':List Nat),i+n=d.1.length→Fo g'→g'.length=d.1.length→(∀j,root g' j=root g j) → LX G 236 ij Tryz.f236 wT (aM Tryz.prog 236 3) ((((d.1.length:Nat):Int),((i:Int),())),((),(fI g',(fI ((List.range i).map (root g)),()))))=some ((fI ((List.range d.1.length).map (root g)),()),()):=by
 have Nn:=h.nv;intro n
 induction n with
 |zero =>
  intro i g' hi h1 h2 h3;have e:i=d.1.length:=by omega
  subst e;refine au NU ?_;exact af (decide_eq_false (show ¬(((d.1.length:Nat):Int)<((d.1.length:Nat):Int)) by omega)) rfl
 |succ n ih =>
  intro i g' hi h1 h2 h3;have aK:i<d.1.length:=by omega
  obtain⟨g2,s,e⟩:=U7 hG g' i h1 (by omega);refine au NU ?_;refine ae (aR aK) (aa e ?_);refine ae (fits (by show(fI _).length+1≤_;rw[DM];simp;omega)) ?_;have:=ih (i+1) g2 (by omega) s.f (by rw[s.n,h2]) (fun j=>(s.r j).trans (h3 j));have e2:fI ((List.range (i+1)).map (root g))=fI ((List.range i).map (root g))++[((root g' i:Nat):Int)]:=by simp_all [List.range_succ,fI]
  rw[e2,←aB aK (by omega)]at this;exact this
theorem XW(hG:HG G){d:ak}(h:Wf d):∀(n:Nat) (rem:List (ab×Int)) (g:List Nat) (o:Option (ab×Int)),rem.length=n→(∀e∈rem,e∈iD d.1 0)→FoI d rem g → LX G 236 ij Tryz.f236 ql (aM Tryz.prog 236 2) ((iD d.1 0,()),((),(fI g,((o,rem),()))))=some ((labels d,()),()):=by
 intro n
 induction n with
 |zero =>
  intro rem g o hn hr hg;have e:rem=[]:=abS hn;subst e;refine au NT ?_;refine ae rfl ?_;have:=XV (G:=G) hG h (g:=g) d.1.length 0 g (by omega) hg.f hg.n (fun _=>rfl);rw[(hg.can h).uniq h (eL h)]at this;have e2:((fI g).length:Int)=((d.1.length:Nat):Int):=by rw[DM,hg.n]
  rw[←e2]at this;exact this
 |succ n ih =>
  intro rem g o hn hr hg;refine au NT ?_;refine af (show rem.isEmpty=false by grind) ?_;refine nE (show 0<rem.length by omega) fun j hj=>?_;have hj':j<rem.length:=hj;refine aa (abk hj') ?_;have hm:=hr _ (ab4 hj');generalize he:rem[j]=e at hm;obtain⟨z,a⟩:=e;obtain⟨i,hi,ha,hz,haz⟩:=xn h hm;subst ha;obtain⟨k,hk⟩:=MR h (h.other hz);obtain⟨k',vu,ek,_,hak⟩:=xn h hk;have ek':k'=k:=by omega
  subst ek';refine aa (KI (hG _ _ rfl) z (h.side hz)) ?_;have vU:fm bf (ag z) (iD d.1 0)=some (k':Int):=Oq h hk;refine ae (show(fm bf (ag z) (iD d.1 0)).isSome=true by rw[vU];rfl) ?_;obtain⟨g',h1,h2,h3,h4⟩:=afj hG g i k' hg.f (by rw[hg.n];exact hi) (by rw[hg.n];exact vu);refine aa (a:=((),(fI g',()))) (by
   have:(fm bf (ag z) (iD d.1 0)).getD (0:Int)=(k':Int):=by rw[vU];rfl
   rw[←this]at h4;exact h4) ?_
  have ak1:Ai d (cP d i) (cP d k'):=⟨z,hz,haz,hak⟩;have cij:ck d (cP d (root g i)) (cP d (root g k')):=((hg.c i hi).symm h).trans (ak1.conn.trans (hg.c k' vu));refine ih (rem.eraseIdx j) g' _ (by grind) (fun e he=>hr e (List.mem_of_mem_eraseIdx he)) ⟨h1,h2.trans hg.n,fun q hq=>?_,fun y p q hp hq hy=>?_⟩
  ·rw[h3 q];unfold DO
   split
   ·rename_i e;refine(hg.c q hq).trans ?_;rw[e];rcases Nat.le_total (root g i) (root g k') with hle|hle
    ·rw[Nat.max_eq_right hle,Nat.min_eq_left hle];exact cij.symm h
    simp_all
   ·exact hg.c q hq
  ·rw[h3 p,h3 q];by_cases te:(y,(p:Int))∈rem
   ·
    have e:(y,(p:Int))=(z,(i:Int)):=by
     apply Classical.byContradiction
     grind [List.mem_eraseIdx_iff_getElem,List.getElem_of_mem]
    have e1:y=z:=congrArg Prod.fst e;have e2:p=i:=by grind
    subst e1;subst e2;have h5:=Oq h hq
    grind [Option.some.inj,MQ]
   ·rw[hg.p y p q hp hq te]
theorem MS(n:Nat):∀i,root (List.range n) i=i:=fun i=>by
 grind [List.range,tS,List.getElem?_range,List.getElem?_eq_some_iff,Option.some.inj,l8]
theorem afl(hG:HG G)(d:ak)(h:Wf d):FX G 236 ij ((d,()),())=some ((labels d,()),()):=by
 refine aw (hG _ _ rfl) adS ?_;refine XU (G:=G) h ?_ d.1.length 0 (by omega);refine XW hG h _ (iD d.1 0) (List.range d.1.length) none rfl (fun _ k=>k) ⟨fun i x hx=>?_,by simp,fun i hi=>?_,fun z i k h1 h2 h3=>absurd h1 h3⟩
 ·grind
 ·rw[MS];exact .refl _
structure PG(G:(f:FuncId)→(g:aO)→Option (g.A→Option g.B)):Prop where
 h:HG G
 f:∀d,Wf d→FX G 207 zZ ((d,()),())=some ((bU d,()),())
 c:∀d,Wf d→FX G 208 z5 ((d,()),())=some ((eZ d,()),())
theorem afm(hp:PG G)(d:ak)(h:Wf d):FX G 183 JX ((d,()),())=some ((((d.1.length:Nat):Int),(((d.2.length:Nat):Int),(((ft d:Nat):Int),(eZ d,())))),()):=by
 have hn:=h.nv;have hf:=xm h;have ha:al d.1≤d.1.length:=acL;refine aw (hp.h _ _ rfl) adL ?_;refine aa (U5 hp.h d.1 (by omega)) ?_;refine aa (hp.f d h) (aa (hp.c d h) ?_);have e:IntKind.wrap .i64 ((((bU d).length:Nat):Int)+((al d.1:Nat):Int))=((ft d:Nat):Int):=by rw[wrap_small (by omega) (by omega)];rfl
 exact congrArg (fun n:Int=>some ((((d.1.length:Nat):Int),(((d.2.length:Nat):Int),(n,(eZ d,())))),())) e
theorem afn(hp:PG G)(d:ak)(h:Wf d):FX G 144 JU ((d,()),())=some ((bP d,()),()):=by
 have hn:=h.nv;have bw:=h.ne;have hf:=xm h;have ha:al d.1≤d.1.length:=acL;refine aw (hp.h _ _ rfl) adB ?_;refine aa (afm hp d h) (af rfl ?_);have hr:=lq h (eL h);obtain⟨k,e1,e2⟩:=DK h hr;have ec:=tR h;have P3:(mV d (labels d)).length≤d.1.length:=by
  grind [mV,List.length_map,Nat.le_trans,List.length_filter_le]
 have hft:ft d≤80+d.1.length:=by omega
 refine congrArg (fun n:Int=>some ((n,()),())) ?_;show IntKind.wrap .i64 (eZ d-IntKind.wrap .i64 (Int.tdiv (IntKind.wrap .i64 ((IntKind.wrap .i64 (((d.1.length:Nat):Int)-((d.2.length:Nat):Int)))+((ft d:Nat):Int))) 2))=bP d
 grind [wrap_small,ft,mV,labels,Int.mul_tdiv_cancel_left]
theorem XX(hp:PG G):sD G:=fun d h=>by refine aw (hp.h _ _ rfl) adk ?_;refine aa (afn hp d h) ?_;rfl
end Go.Vs
