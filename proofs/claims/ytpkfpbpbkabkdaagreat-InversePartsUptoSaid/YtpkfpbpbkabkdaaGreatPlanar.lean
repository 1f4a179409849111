/- What the program computes of faces, parts and whether a diagram lies in the plane. -/
import Derived.Test.YtpkfpbpbkabkdaaGreatSplits
import Derived.Test.YtpkfpbpbkabkdaaGreatEuler
set_option linter.unusedVariables false
set_option linter.unusedSimpArgs false
namespace Go.Vs
open Go.Proofs
variable {G:(f:FuncId)→(g:aN)→Option (g.A→Option g.B)}
theorem KQ(w:ah)(r:List ah)(x:ID):ba (w::r) x=if w.1=x then some w else ba r x:=by
 unfold ba;rw[List.find?_cons];by_cases h:w.1=x<;>simp[h]
theorem Sz(hG:HG G)(l:List ah)(x:ID)(hl:l.length≤1073741824):FX G 110108 ku ((l,x,()),())=some (je zV (ba l x),()):=by
 refine aw (fn:=Tryz.f108) (hG _ _ rfl) (by kernel_rfl) (by kernel_rfl) ((Rm _ _ _).trans ?_)
 have loop:∀(n i:Nat),i+n=l.length→LX G 110108 ku Tryz.f108 mb (aM Tryz.prog 108 0) ((l,(((l.length:Nat):Int),((i:Int),()))),(((x,()),(((0:Int),((0:Int),(([]:List ae),(e0,((0:Int),()))))),())),()))=some (je zV (ba (l.drop i) x),()):=by
  intro n
  induction n with
  |zero =>
   intro i hi
   refine ao (j:=0) (by kernel_rfl) ((BU _ _ _).trans ?_)
   refine ag (decide_eq_false (show ¬((i:Int)<((l.length:Nat):Int)) by omega)) ?_
   rw[List.drop_eq_nil_of_le (by omega)];rfl
  |succ n ih =>
   intro i hi
   have aF:i<l.length:=by omega
   have ahI:FX G 109 HF ((l[i],()),())=some ((l[i].1,()),()):=aw (fn:=Tryz.f109) (hG _ _ rfl) (by kernel_rfl) (by kernel_rfl) (aaU _ _ _)
   refine ao (j:=0) (by kernel_rfl) ((BU _ _ _).trans ?_)
   refine af (aX aF) (aa (ax (List.getElem?_eq_getElem aF)) ?_)
   refine aa ahI ?_
   rw[List.drop_eq_getElem_cons aF,KQ]
   by_cases he:l[i].1=x
   ·rw[if_pos he]
    exact af ((jc l[i].1 x).trans (decide_eq_true he)) rfl
   ·rw[if_neg he]
    refine ag ((jc l[i].1 x).trans (decide_eq_false he)) ?_
    have:=ih (i+1) (by omega)
    rw[←aE aF hl]at this
    exact this
 have:=loop l.length 0 (by omega)
 rw[List.drop_zero]at this
 exact this
theorem IQ(hG:HG G)(d:aj)(x:ID)(hs:Sm d):FX G 74 tg ((d,x,()),())=some (je zV (aR d x),()):=by
 have hv:=hs.v
 refine aw (fn:=Tryz.f74) (hG _ _ rfl) (by kernel_rfl) (by kernel_rfl) ((aaH _ _ _).trans ?_)
 refine aa (Sz hG d.1 x (by omega)) ?_
 unfold aR
 cases hf:ba d.1 x with
 |none=>exact aa (X2 (hG _ _ rfl) [] (by simp)) rfl
 |some v=>exact aa (X2 (hG _ _ rfl) v.2.1 (hs.r v (gN hf))) rfl
theorem SA(w:ah)(r:List ah)(x:ae):FJ (w::r) x=if x∈w.2.1 then some w.1 else FJ r x:=by
 unfold FJ;rw[List.find?_cons];by_cases h:x∈w.2.1<;>simp[h]
theorem SB(hG:HG G)(d:aj)(x:ae)(hs:Sm d):FX G 139 th ((d,x,()),())=some (je zI (bM d x),()):=by
 have hv:=hs.v
 refine aw (fn:=Tryz.f139) (hG _ _ rfl) (by kernel_rfl) (by kernel_rfl) ((aaV _ _ _).trans ?_)
 have loop:∀(n i:Nat),i+n=d.1.length→LX G 139 th Tryz.f139 vu (aM Tryz.prog 139 0) ((d.1,(((d.1.length:Nat):Int),((i:Int),()))),(((x,()),((zI,()),())),()))=some (je zI (FJ (d.1.drop i) x),()):=by
  intro n
  induction n with
  |zero =>
   intro i hi
   refine ao (j:=0) (by kernel_rfl) ((LI _ _ _).trans ?_)
   refine ag (decide_eq_false (show ¬((i:Int)<((d.1.length:Nat):Int)) by omega)) ?_
   rw[List.drop_eq_nil_of_le (by omega)];rfl
  |succ n ih =>
   intro i hi
   have aF:i<d.1.length:=by omega
   refine ao (j:=0) (by kernel_rfl) ((LI _ _ _).trans ?_)
   refine af (aX aF) (aa (ax (List.getElem?_eq_getElem aF)) ?_)
   refine aa (Ee hG d.1[i].2.1 x (by have:=hs.r _ (List.getElem_mem aF);omega)) ?_
   rw[List.drop_eq_getElem_cons aF,SA]
   by_cases he:x∈d.1[i].2.1
   ·rw[if_pos he]
    exact af (decide_eq_true he) rfl
   ·rw[if_neg he]
    refine ag (decide_eq_false he) ?_
    have:=ih (i+1) (by omega)
    rw[←aE aF (by omega)]at this
    exact this
 have:=loop d.1.length 0 (by omega)
 rw[List.drop_zero]at this
 exact this
def KR(x:ae):List aA→Int→Int
 |[],_ => -1
 |g::r,i=>if g.1=x then i else KR x r (i+1)
theorem IS(x:ae):∀(l:List aA) (i:Nat),(KR x l i = -1∧gu l x=none)∨∃k g,KR x l (i:Int)=((i+k:Nat):Int)∧l[k]? = some g∧gu l x=some g.2
 |[],i=>.inl ⟨rfl,rfl⟩
 |g::r,i=>by
  rw[KR,p6]
  by_cases h:g.1=x
  ·rw[if_pos h,if_pos h]
   exact .inr ⟨0,g,by simp,by simp,rfl⟩
  ·rw[if_neg h,if_neg h]
   have e:(i:Int)+1=((i+1:Nat):Int):=by omega
   rw[e]
   rcases IS x r (i+1) with⟨h1,h2⟩|⟨k,q,h1,h2,h3⟩
   ·exact .inl ⟨h1,h2⟩
   ·exact .inr ⟨k+1,q,by rw[h1];congr 1;omega,by simpa using h2,h3⟩
theorem SC(hG:HG G)(l:List aA)(x:ae)(hl:l.length≤1073741824):FX G 246244 jw ((l,()),((x,()),()))=some ((KR x l 0,()),((x,()),())):=by
 refine aw (fn:=Tryz.f244) (hG _ _ rfl) (by kernel_rfl) (by kernel_rfl) ((Ro _ _ _).trans ?_)
 have loop:∀(n i:Nat),i+n=l.length→LX G 246244 jw Tryz.f244 jU (aM Tryz.prog 244 0) ((l,(((l.length:Nat):Int),((i:Int),()))),(((x,()),()),()))=some ((KR x (l.drop i) i,()),((x,()),())):=by
  intro n
  induction n with
  |zero =>
   intro i hi
   refine ao (j:=0) (by kernel_rfl) ((BW _ _ _).trans ?_)
   refine ag (decide_eq_false (show ¬((i:Int)<((l.length:Nat):Int)) by omega)) ?_
   rw[List.drop_eq_nil_of_le (by omega)];rfl
  |succ n ih =>
   intro i hi
   have aF:i<l.length:=by omega
   have ahJ:FX G 245 HJ ((l[i],()),((x.1.1,(x.1.2,(x.2,()))),()))=some (((((l[i].1.1.1==x.1.1)&&(l[i].1.1.2==x.1.2))&&(l[i].1.2==x.2)),()),((x.1.1,(x.1.2,(x.2,()))),())) :=
    aw (fn:=Tryz.f245) (hG _ _ rfl) (by kernel_rfl) (by kernel_rfl) (aa0 _ _ _)
   refine ao (j:=0) (by kernel_rfl) ((BW _ _ _).trans ?_)
   refine af (aX aF) (aa (ax (List.getElem?_eq_getElem aF)) ?_)
   refine aa ahJ ?_
   rw[List.drop_eq_getElem_cons aF,KR]
   by_cases he:l[i].1=x
   ·rw[if_pos he]
    exact af ((kA l[i].1 x).trans (decide_eq_true he)) rfl
   ·rw[if_neg he]
    refine ag ((kA l[i].1 x).trans (decide_eq_false he)) ?_
    have:=ih (i+1) (by omega)
    have e:=aE aF hl
    show LX G 246244 jw Tryz.f244 jU (aM Tryz.prog 244 0) ((l,(((l.length:Nat):Int),(IntKind.wrap .i64 ((i:Int)+1),()))),(((x,()),()),()))=some ((KR x (l.drop (i+1)) ((i+1:Nat):Int),()),((x,()),()))
    rw[e]
    exact this
 have:=loop l.length 0 (by omega)
 rw[List.drop_zero]at this
 exact this
theorem ack(hG:HG G)(l:List aA)(x:ae)(hl:l.length≤1073741824):FX G 230 HH ((l,x,()),())=some (je zD (gu l x),()):=by
 refine aw (fn:=Tryz.f230) (hG _ _ rfl) (by kernel_rfl) (by kernel_rfl) ((aaW _ _ _).trans ?_)
 refine aa (SC hG l x hl) ?_
 rcases IS x l 0 with⟨h1,h2⟩|⟨k,g,h1,h2,h3⟩
 ·have h1:KR x l 0 = -1:=h1
  rw[h2]
  exact af (decide_eq_true (show KR x l 0<0 by omega)) rfl
 ·have h1:KR x l 0=(k:Int):=by
   have:KR x l ((0:Nat):Int)=KR x l 0:=rfl
   rw[←this,h1];congr 1;omega
  rw[h3]
  refine ag (decide_eq_false (show ¬KR x l 0<0 by omega)) ?_
  refine aa (show aY l (KR x l 0)=some g by rw[h1];exact ax h2) ?_
  rfl
theorem acm(hG:HG G)(s:StateT)(x:ae)(hs:Sm s.1)(hg:s.2.length≤50000000):FX G 212 yy ((s,x,()),())=some ((resolve s x,()),()):=by
 refine aw (fn:=Tryz.f212) (hG _ _ rfl) (by kernel_rfl) (by kernel_rfl) ((aaI _ _ _).trans ?_)
 have hw:IntKind.wrap .i64 (((s.2.length:Nat):Int)+1)=((s.2.length+1:Nat):Int):=by rw[wrap_small (by omega) (by omega)];rfl
 have loop:∀(n i:Nat) (y:ae),i+n=s.2.length+1→LX G 212 yy Tryz.f212 vo (aM Tryz.prog 212 0) (((IntKind.wrap .i64 (((s.2.length:Nat):Int)+1)),((i:Int),())),(((s,()),((y,()),((zD,()),()))),()))=some ((res s.1 s.2 n y,()),()):=by
  intro n
  induction n with
  |zero =>
   intro i y hi
   refine ao (j:=0) (by kernel_rfl) ((LD _ _ _).trans ?_)
   exact ag (decide_eq_false (show ¬((i:Int)<IntKind.wrap .i64 (((s.2.length:Nat):Int)+1)) by rw[hw];omega)) rfl
  |succ n ih =>
   intro i y hi
   refine ao (j:=0) (by kernel_rfl) ((LD _ _ _).trans ?_)
   refine af (decide_eq_true (show((i:Int)<IntKind.wrap .i64 (((s.2.length:Nat):Int)+1)) by rw[hw];omega)) ?_
   refine aa (SB hG s.1 y hs) ?_
   rw[res]
   have h1:(je zI (bM s.1 y)).2.1=(bM s.1 y).isSome:=gL _ _
   cases ha:(bM s.1 y).isSome
   ·rw[if_neg (by simp)]
    refine ag (h1.trans ha) ?_
    refine aa (ack hG s.2 y (by omega)) ?_
    cases hf:gu s.2 y with
    |none=>exact af rfl rfl
    |some z =>
     refine ag rfl ?_
     have:=ih (i+1) z (by omega)
     have e:IntKind.wrap .i64 ((i:Int)+1)=((i+1:Nat):Int):=by rw[wrap_small (by omega) (by omega)];rfl
     rw[←e]at this
     exact this
   ·rw[if_pos rfl]
    exact af (h1.trans ha) rfl
 exact loop (s.2.length+1) 0 x (by omega)
theorem acn(hG:HG G)(s:StateT)(c:nF)(hs:Sm s.1)(hg:s.2.length≤50000000):FX G 180 HB ((s,c,()),())=some (bm s c,()):=by
 refine aw (fn:=Tryz.f180) (hG _ _ rfl) (by kernel_rfl) (by kernel_rfl) ((aat _ _ _).trans ?_)
 refine aa (IQ hG s.1 c.1 hs) ?_
 unfold bm
 cases hf:aR s.1 c.1 with
 |none=>exact af rfl rfl
 |some v =>
  refine ag rfl ?_
  refine aa (acm hG s c.2 hs hg) ?_
  refine aa (Ee hG v.2.1 (resolve s c.2) (by have:=hs.r v (gN hf);omega)) ?_
  show _=some (((c.1,vK s c v),((0:Int),())),())
  unfold vK
  by_cases hm:resolve s c.2∈v.2.1
  ·rw[if_pos hm]
   exact aQ (decide_eq_true hm) rfl
  ·rw[if_neg hm]
   exact aQ (decide_eq_false hm) rfl
def KS(G:(f:FuncId)→(g:aN)→Option (g.A→Option g.B)):Prop:=∀d,Wf d→FX G 172 Bk ((d,()),())=some ((decide (fS d=0),()),())
theorem Mk{l:List ah}{e:List ai}{c:nF}{v:ah}(hs:bY l)(hf:ba l c.1=some v)(x:ae):l.set (bG l c.1) (v.1,(mh v.2.1 c.2 x,v.2.2))=(bQ (l,e) c x).1:=by
 rw[KC hs (dg hs hf)]
 have hi:=kH hf
 have hm:=gN hf
 unfold bQ Vs.cf
 rw[←hi,iS (d:=(l,e)) hs hm]
theorem Cv{d:aj}(h:Wf d):pJ d.1 d.2=true:=by
 unfold pJ
 have h1:=h.nv;have h2:=h.ne
 simp only[Bool.and_eq_true,decide_eq_true_eq,List.all_eq_true]
 exact⟨by omega,by omega,fun v hv=>by have:=h.uj v hv;omega⟩
theorem U6(hG:HG G)(hp:KS G)(o:aZ):qa G o:=by
 intro s h hm OY
 have TY:=h.d.nv;have br:=h.d.ne;have hn:=h.n
 have U3:=h.d.small
 have bO:=KA hm
 have start:∀(e:Int) (w:aV),bU 154 oq Tryz.f154 (FX G) (LX G 154 oq Tryz.f154) ((o,()),(aL s,()))=some ((e,()),(w,()))→FX G 154 oq ((o,()),(aL s,()))=some ((e,()),(w,())):=fun e w a =>
  aw (fn:=Tryz.f154) (hG _ _ rfl) (by kernel_rfl) (by kernel_rfl) a
 have f110:=Wz hG (aL s) (aK o) h.d.se (by show s.1.2.length≤_;omega)
 unfold oG
 cases hf:(aT s.1.2 (aK o)).isSome with
 |true =>
  have e1:tp (aL s) (aK o)=(12,aL s):=if_pos hf
  rw[e1]at f110
  refine⟨12,aL s,start _ _ ((XD _ _ _).trans (af (Cv h.d) (aa f110 (af rfl rfl)))),?_⟩
  rw[if_pos (show(cJ s.1 (aK o)).isSome=true from hf)];rfl
 |false =>
 rw[if_neg (show ¬(cJ s.1 (aK o)).isSome=true by show ¬(aT s.1.2 (aK o)).isSome=true;rw[hf];simp)]
 by_cases h40:40≤s.1.2.length
 ·have e1:tp (aL s) (aK o)=(3,aL s):=(if_neg (show ¬(aT s.1.2 (aK o)).isSome=true by rw[hf];simp)).trans (if_pos h40)
  rw[e1]at f110
  refine⟨3,aL s,start _ _ ((XD _ _ _).trans (af (Cv h.d) (aa f110 (af rfl rfl)))),?_⟩
  rw[if_pos h40];rfl
 rw[if_neg h40]
 obtain⟨E,hE⟩:∃E,E=dw (aK o,(e0,0)) s.1.2:=⟨_,rfl⟩
 have e1:tp (aL s) (aK o)=(0,(s.1.1,(E,(s.2,())))):=by rw[hE];exact(if_neg (show ¬(aT s.1.2 (aK o)).isSome=true by rw[hf];simp)).trans (if_neg h40)
 rw[e1]at f110
 obtain⟨x,hx⟩:∃x:ae,x=(aK o,0):=⟨_,rfl⟩
 obtain⟨y,hy⟩:∃y:ae,y=(aK o,1):=⟨_,rfl⟩
 have f111:FX G 179 Bi ((aK o,()),())=some ((x,y,()),()):=by
  rw[hx,hy];exact aw (fn:=Tryz.f179) (hG _ _ rfl) (by kernel_rfl) (by kernel_rfl) (Wj _ _ _)
 have f112:=fun c:nF=>acn hG s c h.d.sm (by omega)
 have go:∀(e:Int) (w:aV),LX G 154 oq Tryz.f154 ma (aM Tryz.prog 154 0) (((2:Int),((0:Int),())),(((s.1.1,(E,(s.2,()))),((s,()),((x,()),()))),([x,y],([oA o,oB o],()))))=some ((e,()),(w,()))→FX G 154 oq ((o,()),(aL s,()))=some ((e,()),(w,())):=fun e w a =>
  start _ _ ((XD _ _ _).trans (af (Cv h.d) (aa f110 (ag rfl (aa f111 a)))))
 by_cases hA:(bm s (oA o)).2.1=0
 case neg =>
  rw[if_pos hA]
  have ahK:bm s (oA o)=(zC,(13,())):=by
   unfold bm at hA ⊢
   cases hv:aR s.1 (oA o).1 with
   |none=>rfl
   |some v=>rw[hv]at hA;exact absurd rfl hA
  refine⟨13,(s.1.1,(E,(s.2,()))),go _ _ ?_,rfl⟩
  refine ao (j:=0) (by kernel_rfl) ((xc _ _ _).trans ?_)
  refine af rfl (af rfl (aa (a:=oA o) rfl (aa (f112 (oA o)) ?_)))
  rw[ahK]
  exact af rfl rfl
 rw[if_neg (fun k=>k hA)]
 obtain⟨va,ca⟩:=p7 hA
 obtain⟨cA,hcA⟩:∃c:nF,c=(bm s (oA o)).1:=⟨_,rfl⟩
 have eA:bm s (oA o)=(cA,(0,())):=by
  rw[hcA]
  have:(bm s (oA o)).2=(0,()):=by
   have h1:(bm s (oA o)).2=((bm s (oA o)).2.1,()):=rfl
   rw[h1,hA]
  rw[←this]
 have cAv:(ba s.1.1 cA.1).isSome=true:=by rw[hcA,ca];exact va
 obtain⟨v1,uQ⟩:=Option.isSome_iff_exists.1 cAv
 have Yg:=gN uQ
 obtain⟨d1,N4⟩:∃d1:aj,d1=bQ (s.1.1,E) cA x:=⟨_,rfl⟩
 have ahM:s.1.1.set (bG s.1.1 cA.1) (v1.1,(mh v1.2.1 cA.2 x,v1.2.2))=d1.1:=by rw[N4];exact Mk h.d.sv uQ x
 have WI:bY d1.1:=by rw[N4];exact h.d.sv.re _ _
 have hl1:=(List.getElem?_eq_some_iff.1 (dg h.d.sv uQ)).1
 have WJ:∀v∈d1.1,v.2.1.length≤50000000:=fun v hv=>by
  rw[N4]at hv
  obtain⟨w,hw,rfl⟩:=List.mem_map.1 (show v∈s.1.1.map (su cA.1 (mh (aS (s.1.1,E) cA.1) cA.2 x)) from hv)
  have h1:=h.d.uj w hw
  unfold su
  split
  ·have h2:=yK (aS (s.1.1,E) cA.1) cA.2 x
   have h3:(aS (s.1.1,E) cA.1).length≤80:=by
    rw[←kH uQ,iS (d:=(s.1.1,E)) h.d.sv Yg]
    exact h.d.uj v1 Yg
   show(mh (aS (s.1.1,E) cA.1) cA.2 x).length≤50000000
   omega
  ·omega
 have d1l:d1.1.length=s.1.1.length:=by rw[N4];exact fB _ _ _
 have WK:∀(e:Int) (w:aV),LX G 154 oq Tryz.f154 ma (aM Tryz.prog 154 0) (((2:Int),((1:Int),())),(((d1.1,(E,(s.2,()))),((s,()),((x,()),()))),([x,y],([oA o,oB o],()))))=some ((e,()),(w,()))→FX G 154 oq ((o,()),(aL s,()))=some ((e,()),(w,())):=fun e w a=>by
  refine go _ _ ?_
  refine ao (j:=0) (by kernel_rfl) ((xc _ _ _).trans ?_)
  refine af rfl (af rfl (aa (a:=oA o) rfl (aa (f112 (oA o)) ?_)))
  rw[eA]
  refine ag rfl (ag rfl ?_)
  refine aa (qm hG (s.1.1,(E,(s.2,()))) cA.1 h.d.sv U3.n) ?_
  refine af (cY (fh _) (aX hl1)) (aa (dg h.d.sv uQ) ?_)
  refine af rfl (aa (a:=x) rfl ?_)
  refine aa (R4 hG v1.2.1 cA.2 x (U3.r v1 Yg)) ?_
  refine aa (dg h.d.sv uQ) ?_
  have key:∀a1:List ah,a1=d1.1→LX G 154 oq Tryz.f154 ma (aM Tryz.prog 154 0) (((2:Int),((1:Int),())),(((a1,(E,(s.2,()))),((s,()),((x,()),()))),([x,y],([oA o,oB o],()))))=some ((e,()),(w,())):=fun a1 Ex=>by subst Ex;exact a
  exact key _ ahM
 by_cases hB:(bm s (oB o)).2.1=0
 case neg =>
  rw[if_pos hB]
  have ahN:bm s (oB o)=(zC,(13,())):=by
   unfold bm at hB ⊢
   cases hv:aR s.1 (oB o).1 with
   |none=>rfl
   |some v=>rw[hv]at hB;exact absurd rfl hB
  refine⟨13,(d1.1,(E,(s.2,()))),WK _ _ ?_,rfl⟩
  refine ao (j:=0) (by kernel_rfl) ((xc _ _ _).trans ?_)
  refine af rfl (af rfl (aa (a:=oB o) rfl (aa (f112 (oB o)) ?_)))
  rw[ahN]
  exact af rfl rfl
 rw[if_neg (fun k=>k hB)]
 obtain⟨vb,cb⟩:=p7 hB
 obtain⟨cB,hcB⟩:∃c:nF,c=if(aR s.1 (oB o).1).isSome=true∧(oB o).2=(aK o,0) then oB o else(bm s (oB o)).1:=⟨_,rfl⟩
 have eB:bm s (oB o)=((bm s (oB o)).1,(0,())):=by
  have:(bm s (oB o)).2=(0,()):=by
   have h1:(bm s (oB o)).2=((bm s (oB o)).2.1,()):=rfl
   rw[h1,hB]
  rw[←this]
 have cB1:cB.1=(oB o).1:=by rw[hcB];split;rfl;exact cb
 have cBv:(ba d1.1 cB.1).isSome=true:=by
  rw[N4]
  exact vQ _ (by rw[cB1];exact vb)
 obtain⟨v2,xV⟩:=Option.isSome_iff_exists.1 cBv
 have acq:=gN xV
 have wy:=(List.getElem?_eq_some_iff.1 (dg WI xV)).1
 obtain⟨d2,Uc⟩:∃d2:aj,d2=bQ d1 cB y:=⟨_,rfl⟩
 have U7:d1.1.set (bG d1.1 cB.1) (v2.1,(mh v2.2.1 cB.2 y,v2.2.2))=d2.1:=by rw[Uc];exact Mk (e:=d1.2) WI xV y
 have WL:gD s o=d2:=by
  rw[Uc,N4,hcA,hcB,hx,hy,hE];rfl
 have hE2:d2.2=E:=by rw[Uc,N4];rfl
 have hwf:Wf d2:=by
  rw[←WL]
  unfold gD
  have hn0:aT s.1.2 (aK o)=none:=by simpa using hf
  refine h.d.link bO hn0 h40 (by rw[ca];exact va) ?_
  rw[←hcB,cB1];exact vb
 have last:∀(e:Int) (w:aV),LX G 154 oq Tryz.f154 ma (aM Tryz.prog 154 0) (((2:Int),((2:Int),())),(((d2.1,(E,(s.2,()))),((s,()),((x,()),()))),([x,y],([oA o,oB o],()))))=some ((e,()),(w,()))→FX G 154 oq ((o,()),(aL s,()))=some ((e,()),(w,())):=fun e w a=>by
  refine WK _ _ ?_
  refine ao (j:=0) (by kernel_rfl) ((xc _ _ _).trans ?_)
  refine af rfl (af rfl (aa (a:=oB o) rfl (aa (f112 (oB o)) ?_)))
  rw[eB]
  have key:∀a2:List ah,a2=d2.1→LX G 154 oq Tryz.f154 ma (aM Tryz.prog 154 0) (((2:Int),((2:Int),())),(((a2,(E,(s.2,()))),((s,()),((x,()),()))),([x,y],([oA o,oB o],()))))=some ((e,()),(w,())):=fun a2 Dp=>by subst Dp;exact a
  refine ag rfl (af rfl ?_)
  have qo:=kA (oB o).2 x
  by_cases Y1:(oB o).2=x
  ·have ecB:cB=oB o:=by rw[hcB];exact if_pos ⟨vb,Y1.trans hx⟩
   refine af (qo.trans (decide_eq_true Y1)) ?_
   rw[ecB]at xV wy U7
   refine aa (qm hG (d1.1,(E,(s.2,()))) (oB o).1 WI (by show d1.1.length≤_;omega)) ?_
   refine af (cY (fh _) (aX wy)) (aa (dg WI xV) ?_)
   refine af rfl (aa (a:=y) rfl ?_)
   refine aa (R4 hG v2.2.1 (oB o).2 y (WJ v2 acq)) ?_
   refine aa (dg WI xV) ?_
   exact key _ U7
  ·have ecB:cB=(bm s (oB o)).1:=by rw[hcB];exact if_neg (fun k=>Y1 (k.2.trans hx.symm))
   refine ag (qo.trans (decide_eq_false Y1)) ?_
   rw[ecB]at xV wy U7
   refine aa (qm hG (d1.1,(E,(s.2,()))) (bm s (oB o)).1.1 WI (by show d1.1.length≤_;omega)) ?_
   refine af (cY (fh _) (aX wy)) (aa (dg WI xV) ?_)
   refine af rfl (aa (a:=y) rfl ?_)
   refine aa (R4 hG v2.2.1 (bm s (oB o)).1.2 y (WJ v2 acq)) ?_
   refine aa (dg WI xV) ?_
   exact key _ U7
 have f114:=hp d2 hwf
 rw[WL]
 have e2:(d2.1,E)=d2:=by rw[←hE2]
 by_cases hg:fS d2=0
 ·rw[if_neg (fun k=>k hg)]
  refine⟨0,(d2.1,(E,(s.2,()))),last _ _ ?_,?_⟩
  ·refine ao (j:=0) (by kernel_rfl) ((xc _ _ _).trans ?_)
   refine ag rfl ?_
   have key:∀q:aj,q=d2→((FX G 172 Bk ((q,()),())).bind fun(HT:((Bool×Unit)×Unit))=>cond (not HT.1.1) (some (((15:Int),()),((d2.1,(E,(s.2,()))),()))) (some (((0:Int),()),((d2.1,(E,(s.2,()))),()))))=some (((0:Int),()),((d2.1,(E,(s.2,()))),())):=fun q hq=>by
    subst hq
    exact aa f114 (aQ (decide_eq_true hg) rfl)
   exact key _ e2
  ·show(zX (d2.1,(E,(s.2,()))),((0:Int),()))=((d2,s.2),(0,()))
   show(((d2.1,E),s.2),((0:Int),()))=((d2,s.2),(0,()))
   rw[e2]
 ·rw[if_pos hg]
  refine⟨15,(d2.1,(E,(s.2,()))),last _ _ ?_,rfl⟩
  refine ao (j:=0) (by kernel_rfl) ((xc _ _ _).trans ?_)
  refine ag rfl ?_
  have key:∀q:aj,q=d2→((FX G 172 Bk ((q,()),())).bind fun(HT:((Bool×Unit)×Unit))=>cond (not HT.1.1) (some (((15:Int),()),((d2.1,(E,(s.2,()))),()))) (some (((0:Int),()),((d2.1,(E,(s.2,()))),()))))=some (((15:Int),()),((d2.1,(E,(s.2,()))),())):=fun q hq=>by
   subst hq
   exact aa f114 (aQ (decide_eq_false hg) rfl)
  exact key _ e2
end Go.Vs
namespace Go.Vs
open Go.Proofs
variable {G:(f:FuncId)→(g:aN)→Option (g.A→Option g.B)}
theorem acr(hG:HG G)(row:List ae)(d:ae)(hl:row.length≤100000000):FX G 261 HM ((row,d,()),())=some (yI (cz row d 1),()):=by
 refine aw (fn:=Tryz.f261) (hG _ _ rfl) (by kernel_rfl) (by kernel_rfl) ((aa8 _ _ _).trans ?_)
 have key:FX G 167 Br ((row,(d,((1:Int),()))),())=some (yI (cz row d 1),()):=by
  refine aw (fn:=Tryz.f167) (hG _ _ rfl) (by kernel_rfl) (by kernel_rfl) ((Wl _ _ _).trans ?_)
  refine aa (Cb (hG _ _ rfl) row d (by omega)) ?_
  unfold cz
  by_cases hd:d∈row
  ·rw[if_pos hd]
   obtain⟨k,h1,h2,h3⟩:=fF hd
   have aF:=(List.getElem?_eq_some_iff.1 h2).1
   refine ag (decide_eq_false (show ¬idx d row 0<0 by omega)) ?_
   refine ag (FH hd) ?_
   have Uu:IntKind.wrap .i64 (idx d row 0+1)=((k+1:Nat):Int):=by rw[h1,wrap_small (by omega) (by omega)];rfl
   have xj:(k+1)%row.length<row.length:=Nat.mod_lt _ (by omega)
   have hx:=List.getElem?_eq_getElem xj
   refine aa (show aY row (Int.tmod (IntKind.wrap .i64 (idx d row 0+1)) ((row.length:Nat):Int))=some row[(k+1)%row.length] by rw[Uu,rp];exact ax hx) ?_
   rw[h1,Int.toNat_natCast,hx];rfl
  ·rw[if_neg hd]
   exact af (decide_eq_true (eT.2 hd)) rfl
 refine aa key ?_
 rfl
def IT(x:ae):List ah→Option ae
 |[]=>none
 |v::r=>if x∈v.2.1 then cz v.2.1 x 1 else IT x r
theorem Ml{l:List ah}(h:Rw l){v:ah}{x:ae}(hv:v∈l)(hx:x∈v.2.1):∀r,(∀u∈r,u∈l)→v∈r→IT x r=cz v.2.1 x 1
 |[],_,k=>by cases k
 |u::r,hs,k=>by
  rw[IT]
  by_cases hu:x∈u.2.1
  ·rw[if_pos hu,h.one hv (hs u List.mem_cons_self) hx hu]
  ·rw[if_neg hu]
   rcases List.mem_cons.1 k with e|k
   ·rw[e]at hx;exact absurd hx hu
   ·exact Ml h hv hx r (fun w hw=>hs w (List.mem_cons_of_mem _ hw)) k
theorem Ey{x:ae}:∀{l:List ah},x∉au l→IT x l=none
 |[],_=>rfl
 |v::r,h=>by
  rw[iF,List.mem_append]at h
  rw[IT,if_neg (fun k=>h (.inl k))]
  exact Ey fun k=>h (.inr k)
theorem KT{d:aj}(h:Rw d.1)(x:ae):IT x d.1=oE d x:=by
 by_cases hx:x∈au d.1
 ·obtain⟨v,hv,jI⟩:=bh.1 hx
  rw[Co h hv jI]
  exact Ml h hv jI d.1 (fun _ k=>k) hv
 ·rw[Ey hx]
  unfold oE bM
  rw[Io hx]
theorem acs(hG:HG G)(d:aj)(x:ae)(hs:Sm d)(h:Rw d.1):FX G 258 yD ((d,x,()),())=some (yI (oE d x),()):=by
 have hv:=hs.v
 rw[←KT h x]
 refine aw (fn:=Tryz.f258) (hG _ _ rfl) (by kernel_rfl) (by kernel_rfl) ((aa5 _ _ _).trans ?_)
 have loop:∀(n i:Nat),i+n=d.1.length→LX G 258 yD Tryz.f258 vz (aM Tryz.prog 258 0) ((d.1,(((d.1.length:Nat):Int),((i:Int),()))),(((x,()),((zD,()),())),()))=some (yI (IT x (d.1.drop i)),()):=by
  intro n
  induction n with
  |zero =>
   intro i hi
   refine ao (j:=0) (by kernel_rfl) ((LO _ _ _).trans ?_)
   refine ag (decide_eq_false (show ¬((i:Int)<((d.1.length:Nat):Int)) by omega)) ?_
   rw[List.drop_eq_nil_of_le (by omega)];rfl
  |succ n ih =>
   intro i hi
   have aF:i<d.1.length:=by omega
   refine ao (j:=0) (by kernel_rfl) ((LO _ _ _).trans ?_)
   refine af (aX aF) (aa (ax (List.getElem?_eq_getElem aF)) ?_)
   refine aa (acr hG d.1[i].2.1 x (by have:=hs.r _ (List.getElem_mem aF);omega)) ?_
   rw[List.drop_eq_getElem_cons aF,IT]
   by_cases he:x∈d.1[i].2.1
   ·rw[if_pos he]
    unfold cz
    rw[if_pos he]
    obtain⟨k,h1,h2,h3⟩:=fF he
    have hl:=(List.getElem?_eq_some_iff.1 h2).1
    have hm:((idx x d.1[i].2.1 0).toNat+1)%d.1[i].2.1.length<d.1[i].2.1.length:=Nat.mod_lt _ (by omega)
    rw[List.getElem?_eq_getElem hm]
    exact af rfl rfl
   ·rw[if_neg he]
    unfold cz
    rw[if_neg he]
    refine ag rfl ?_
    have:=ih (i+1) (by omega)
    rw[←aE aF (by omega)]at this
    exact this
 have:=loop d.1.length 0 (by omega)
 rw[List.drop_zero]at this
 exact this
theorem at_mem{d:aj}{x:ae}(h:(bM d x).isSome=true):x∈au d.1:=by
 apply Classical.byContradiction
 intro k
 unfold bM at h
 rw[Io k]at h
 cases h
theorem acu(hG:HG G)(d:aj)(x:ae)(h:Wf d):FX G 255 D5 ((d,x,()),())=some (yI (Ie d x),()):=by
 have hs:=h.sm
 refine aw (fn:=Tryz.f255) (hG _ _ rfl) (by kernel_rfl) (by kernel_rfl) ((aa3 _ _ _).trans ?_)
 refine aa (SB hG d x hs) ?_
 have h1:(je zI (bM d x)).2.1=(bM d x).isSome:=gL _ _
 unfold Ie
 cases ha:(bM d x).isSome
 ·rw[if_neg (by simp)]
  exact aQ (h1.trans ha) rfl
 ·rw[if_pos rfl]
  refine aQ (h1.trans ha) ?_
  refine aa (Iu (hG _ _ rfl) x (h.side (at_mem ha))) ?_
  exact aa (acs hG d (ar x) hs h.rw) rfl
theorem acv(hG:HG G)(d:aj)(hs:Sm d):FX G 249 vj ((d,()),())=some ((eU d.2,()),()):=by
 have he:=hs.e
 refine aw (fn:=Tryz.f249) (hG _ _ rfl) (by kernel_rfl) (by kernel_rfl) ((aa2 _ _ _).trans ?_)
 have loop:∀(n i:Nat) (out:List ae),i+n=d.2.length→out.length=2*i→LX G 249 vj Tryz.f249 vv (aM Tryz.prog 249 0) ((d.2,(((d.2.length:Nat):Int),((i:Int),()))),((),(out,())))=some ((out++eU (d.2.drop i),()),()):=by
  intro n
  induction n with
  |zero =>
   intro i out hi ho
   refine ao (j:=0) (by kernel_rfl) ((LJ _ _ _).trans ?_)
   refine ag (decide_eq_false (show ¬((i:Int)<((d.2.length:Nat):Int)) by omega)) ?_
   rw[List.drop_eq_nil_of_le (by omega)]
   show some ((out,()),())=some ((out++[],()),())
   rw[List.append_nil]
  |succ n ih =>
   intro i out hi ho
   have aF:i<d.2.length:=by omega
   refine ao (j:=0) (by kernel_rfl) ((LJ _ _ _).trans ?_)
   refine af (aX aF) (aa (ax (List.getElem?_eq_getElem aF)) ?_)
   refine aa (Iu (hG _ _ rfl) (d.2[i].1,0) (.inl rfl)) ?_
   refine af (fits (by show out.length+2≤_;omega)) ?_
   have:=ih (i+1) (out++[(d.2[i].1,0),(d.2[i].1,1)]) (by omega) (by simp[ho];omega)
   rw[List.drop_eq_getElem_cons aF]
   rw[←aE aF (by omega),List.append_assoc]at this
   exact this
 exact loop d.2.length 0 [] (by omega) rfl
theorem SD(hG:HG G)(l:List ah)(hl:l.length≤50000000):FX G 240238 kx ((l,()),())=some ((((al l:Nat):Int),()),()):=by
 refine aw (fn:=Tryz.f238) (hG _ _ rfl) (by kernel_rfl) (by kernel_rfl) ((Rp _ _ _).trans ?_)
 have loop:∀(n i m:Nat),i+n=l.length→m≤i→LX G 240238 kx Tryz.f238 jV (aM Tryz.prog 238 0) (((m:Int),(l,(((l.length:Nat):Int),((i:Int),())))),((),()))=some ((((m+al (l.drop i):Nat):Int),()),()):=by
  intro n
  induction n with
  |zero =>
   intro i m hi hm
   refine ao (j:=0) (by kernel_rfl) ((BX _ _ _).trans ?_)
   refine ag (decide_eq_false (show ¬((i:Int)<((l.length:Nat):Int)) by omega)) ?_
   rw[List.drop_eq_nil_of_le (by omega)];rfl
  |succ n ih =>
   intro i m hi hm
   have aF:i<l.length:=by omega
   have ahP:FX G 239 HK ((l[i],()),())=some ((l[i].2.1.isEmpty,()),()):=by
    refine aw (fn:=Tryz.f239) (hG _ _ rfl) (by kernel_rfl) (by kernel_rfl) ((aa1 _ _ _).trans ?_)
    have:(((l[i].2.1.length:Nat):Int)==0)=l[i].2.1.isEmpty:=by cases l[i].2.1<;>simp;omega
    exact congrArg (fun b:Bool=>some ((b,()),())) this
   refine ao (j:=0) (by kernel_rfl) ((BX _ _ _).trans ?_)
   refine af (aX aF) (aa (ax (List.getElem?_eq_getElem aF)) ?_)
   refine aa ahP ?_
   rw[List.drop_eq_getElem_cons aF]
   unfold al
   rw[List.countP_cons]
   cases hb:l[i].2.1.isEmpty
   ·refine ag rfl ?_
    have:=ih (i+1) m (by omega) (by omega)
    rw[←aE aF (by omega)]at this
    exact this
   ·refine af rfl ?_
    have:=ih (i+1) (m+1) (by omega) (by omega)
    rw[←aE aF (by omega),←aE (i:=m) (n:=l.length) (by omega) (by omega)]at this
    refine this.trans ?_
    refine congrArg (fun q:Nat=>some ((((q:Nat):Int),()),())) ?_
    unfold al
    simp;omega
 have:=loop l.length 0 0 (by omega) (by omega)
 rw[List.drop_zero,Nat.zero_add]at this
 exact this
end Go.Vs
namespace Go.Vs
open Go.Proofs
variable {G:(f:FuncId)→(g:aN)→Option (g.A→Option g.B)}
def Fo(g:List Nat):Prop:=∀(i x:Nat),g[i]? = some x→x≤i
def root(g:List Nat)(i:Nat):Nat :=
 match g[i]? with
 |some x=>if h:x<i then root g x else i
 |none=>i
termination_by i
theorem dE{g:List Nat}{i x:Nat}(h:g[i]? = some x):root g i=if x<i then root g x else i:=by
 rw[root,h];simp
theorem lC{g:List Nat}{i:Nat}(h:g[i]? = none):root g i=i:=by rw[root,h]
theorem Mm(g:List Nat):∀i,root g i≤i:=by
 intro i
 induction i using Nat.strongRecOn with
 |_ i ih =>
  cases h:g[i]? with
  |none=>rw[lC h];exact Nat.le_refl _
  |some x =>
   rw[dE h]
   split
   ·rename_i hx;have:=ih x hx;omega
   ·exact Nat.le_refl _
theorem IU{g:List Nat}(hf:Fo g):∀i,i<g.length→g[root g i]? = some (root g i):=by
 intro i
 induction i using Nat.strongRecOn with
 |_ i ih =>
  intro hi
  have h:=List.getElem?_eq_getElem hi
  rw[dE h]
  split
  ·rename_i hx;exact ih _ hx (by omega)
  ·have:=hf i _ h
   rw[h];congr 1;omega
theorem lD{g:List Nat}{i:Nat}(h:g[i]? = some i):root g i=i:=by rw[dE h,if_neg (by omega)]
theorem Fo.set{g:List Nat}(hf:Fo g){i y:Nat}(h:y≤i):Fo (g.set i y):=fun j x hj=>by
 rw[List.getElem?_set]at hj
 split at hj
 ·rename_i e;subst e
  split at hj
  ·cases hj;exact h
  ·cases hj
 ·exact hf j x hj
theorem KU{g:List Nat}(hf:Fo g){i x y:Nat}(hi:g[i]? = some x)(hx:g[x]? = some y)(aF:x<i):∀j,root (g.set i y) j=root g j:=by
 have hyx:=hf x y hx
 have nE:=(List.getElem?_eq_some_iff.1 hi).1
 intro j
 induction j using Nat.strongRecOn with
 |_ j ih =>
  by_cases e:j=i
  ·subst e
   have h1:(g.set j y)[j]? = some y:=by rw[List.getElem?_set];simp[nE]
   rw[dE h1,if_pos (by omega),ih y (by omega),dE hi,if_pos aF,dE hx]
   split
   ·rfl
   ·have:y=x:=by omega
    subst this;exact lD hx
  ·have h1:(g.set i y)[j]? = g[j]? := by rw[List.getElem?_set,if_neg (fun k=>e k.symm)]
   cases h:g[j]? with
   |none=>rw[lC h,lC (h1.trans h)]
   |some z =>
    rw[dE h,dE (h1.trans h)]
    split
    ·rename_i hz;exact ih z hz
    ·rfl
theorem Ol{g:List Nat}{a b:Nat}(ha:g[a]? = some a)(hb:g[b]? = some b):∀j,root (g.set (max a b) (min a b)) j=if root g j=max a b then min a b else root g j:=by
 have hm:g[max a b]? = some (max a b):=by rcases Nat.le_total a b with h|h<;>simp[Nat.max_eq_right,Nat.max_eq_left,h,ha,hb]
 have hn:g[min a b]? = some (min a b):=by rcases Nat.le_total a b with h|h<;>simp[Nat.min_eq_right,Nat.min_eq_left,h,ha,hb]
 have hml:=(List.getElem?_eq_some_iff.1 hm).1
 have hle:min a b≤max a b:=by omega
 generalize max a b=M at *
 generalize min a b=m at *
 have aF:∀j,(g.set M m)[j]? = if j=M then some m else g[j]? := fun j=>by
  rw[List.getElem?_set]
  by_cases e:M=j
  ·subst e;simp[hml]
  ·rw[if_neg e,if_neg (fun k=>e k.symm)]
 intro j
 induction j using Nat.strongRecOn with
 |_ j ih =>
  by_cases ej:j=M
  ·subst ej
   have h1:(g.set j m)[j]? = some m:=by rw[aF,if_pos rfl]
   rw[dE h1,lD hm,if_pos rfl]
   by_cases e:m<j
   ·rw[if_pos e,ih m e,lD hn,if_neg (by omega)]
   ·rw[if_neg e];omega
  ·have h1:(g.set M m)[j]? = g[j]? := by rw[aF,if_neg ej]
   cases h:g[j]? with
   |none=>rw[lC h,lC (h1.trans h),if_neg ej]
   |some z =>
    rw[dE h,dE (h1.trans h)]
    by_cases hz:z<j
    ·rw[if_pos hz,if_pos hz];exact ih z hz
    ·rw[if_neg hz,if_neg hz,if_neg ej]
def fI(g:List Nat):List Int:=g.map fun n=>((n:Nat):Int)
theorem Cw(g:List Nat):(fI g).length=g.length:=by simp[fI]
theorem uo{g:List Nat}{i x:Nat}(h:g[i]? = some x):(fI g)[Int.toNat (i:Int)]? = some (x:Int):=by simp[fI,h]
theorem SF(g:List Nat)(i x:Nat):(fI g).set (Int.toNat (i:Int)) (x:Int)=fI (g.set i x):=by simp[fI,List.map_set]
theorem Cx{g:List Nat}{i:Nat}(h:i<g.length):(decide ((0:Int)≤(i:Int))&&decide ((i:Int)<(((fI g).length:Nat):Int)))=true:=by
 rw[Cw];exact cY (fh i) (aX h)
structure Ez(g g':List Nat):Prop where
 f:Fo g'
 n:g'.length=g.length
 r:∀j,root g' j=root g j
theorem Ez.trans{a b c:List Nat}(h:Ez a b)(k:Ez b c):Ez a c:=⟨k.f,k.n.trans h.n,fun j=>(k.r j).trans (h.r j)⟩
theorem SH(hG:HG G)(g:List Nat)(i:Nat)(hf:Fo g)(hi:i<g.length):∃g',Ez g g'∧FX G 260 ri (((i:Int),()),(fI g,()))=some ((((root g i:Nat):Int),()),(fI g',())):=by
 have loop:∀(i:Nat) (g:List Nat),Fo g→i<g.length→∃g',Ez g g'∧LX G 260 ri Tryz.f260 so (aM Tryz.prog 260 0) (((i:Int),()),((),(fI g,())))=some ((((root g i:Nat):Int),()),(fI g',())):=by
  intro i
  induction i using Nat.strongRecOn with
  |_ i ih =>
   intro g hf hi
   have h:=List.getElem?_eq_getElem hi
   generalize g[i]=x at h
   have hxi:=hf i x h
   by_cases hx:x<i
   ·have h2:=List.getElem?_eq_getElem (show x<g.length by omega)
    generalize g[x]=y at h2
    have hyx:=hf x y h2
    have hs:=KU hf h h2 hx
    have hf2:Fo (g.set i y):=hf.set (by omega)
    obtain⟨g',h3,h4⟩:=ih y (by omega) (g.set i y) hf2 (by rw[List.length_set];omega)
    refine⟨g',⟨h3.f,by rw[h3.n,List.length_set],fun j=>(h3.r j).trans (hs j)⟩,?_⟩
    refine ao (j:=0) (by kernel_rfl) ((LP _ _ _).trans ?_)
    refine af (Cx hi) (aa (uo h) ?_)
    refine af (show(((x:Nat):Int) != (i:Int))=true by rw[bne_iff_ne];omega) ?_
    refine af (Cx hi) (aa (uo h) ?_)
    refine af (Cx (show x<g.length by omega)) (aa (uo h2) ?_)
    refine af (Cx hi) (aa (uo h) ?_)
    have ahQ:=SF g i y
    have key:∀f:List Int,f=fI (g.set i y)→cond ((decide ((0:Int)≤(i:Int)))&&(decide ((i:Int)<(((List.length f):Nat):Int)))) (((f)[(Int.toNat (i:Int))]?).bind fun(y5:Int)=>LX G 260 ri Tryz.f260 so (aM Tryz.prog 260 0) ((y5,()),((),(f,())))) none=some ((((root g i:Nat):Int),()),(fI g',())):=fun f hf=>by
     subst hf
     refine af (Cx (by rw[List.length_set];exact hi)) (aa (uo (x:=y) (by rw[List.getElem?_set];simp[hi])) ?_)
     rw[h4,hs y,dE h,if_pos hx,dE h2]
     by_cases hy:y<x
     ·rw[if_pos hy]
     ·have:y=x:=by omega
      subst this;rw[if_neg (by omega),lD h2]
    exact key _ ahQ
   ·have:x=i:=by omega
    subst this
    refine⟨g,⟨hf,rfl,fun _=>rfl⟩,?_⟩
    refine ao (j:=0) (by kernel_rfl) ((LP _ _ _).trans ?_)
    refine af (Cx hi) (aa (uo h) ?_)
    rw[lD h]
    exact ag (by simp) rfl
 obtain⟨g',h1,h2⟩:=loop i g hf hi
 exact⟨g',h1,aw (fn:=Tryz.f260) (hG _ _ rfl) (by kernel_rfl) (by kernel_rfl) ((aa7 _ _ _).trans h2)⟩
def Cz(a b r:Nat):Nat:=if r=max a b then min a b else r
theorem acw(hG:HG G)(g:List Nat)(i k:Nat)(hf:Fo g)(hi:i<g.length)(hk:k<g.length):∃g',Fo g'∧g'.length=g.length∧(∀j,root g' j=Cz (root g i) (root g k) (root g j))∧FX G 259 HL (((i:Int),((k:Int),())),(fI g,()))=some ((),(fI g',())):=by
 obtain⟨g1,h1,e1⟩:=SH hG g i hf hi
 obtain⟨g2,h2,e2⟩:=SH hG g1 k h1.f (by rw[h1.n];exact hk)
 rw[h1.r k]at e2
 have hs:=h1.trans h2
 have ra:g2[root g i]? = some (root g i):=by
  have:=IU hs.f i (by rw[hs.n];exact hi)
  rw[hs.r i]at this;exact this
 have rb:g2[root g k]? = some (root g k):=by
  have:=IU hs.f k (by rw[hs.n];exact hk)
  rw[hs.r k]at this;exact this
 have hal:=(List.getElem?_eq_some_iff.1 ra).1
 have hbl:=(List.getElem?_eq_some_iff.1 rb).1
 have hm:max (root g i) (root g k)<g2.length:=by omega
 refine⟨g2.set (max (root g i) (root g k)) (min (root g i) (root g k)),hs.f.set (by omega),by rw[List.length_set,hs.n],fun j=>by rw[Ol ra rb j,hs.r j];rfl,?_⟩
 refine aw (fn:=Tryz.f259) (hG _ _ rfl) (by kernel_rfl) (by kernel_rfl) ((aa6 _ _ _).trans ?_)
 refine aa e1 (aa e2 ?_)
 have em:(max ((root g i:Nat):Int) ((root g k:Nat):Int):Int)=((max (root g i) (root g k):Nat):Int):=by omega
 have en:(min ((root g i:Nat):Int) ((root g k:Nat):Int):Int)=((min (root g i) (root g k):Nat):Int):=by omega
 have key:∀m n:Int,m=((max (root g i) (root g k):Nat):Int)→n=((min (root g i) (root g k):Nat):Int)→cond ((decide ((0:Int)≤m))&&(decide (m<(((List.length (fI g2)):Nat):Int)))) (((fI g2)[(Int.toNat m)]?).bind fun(y3:Int)=>(some ((),((List.set (fI g2) (Int.toNat m) n),())):Option (Unit×((List Int)×Unit)))) none=some ((),(fI (g2.set (max (root g i) (root g k)) (min (root g i) (root g k))),())):=fun m n T9 JD=>by
  subst T9 JD
  refine af (Cx hm) (aa (uo (List.getElem?_eq_getElem hm)) ?_)
  rw[SF]
 exact key _ _ em en
end Go.Vs
namespace Go.Vs
open Go.Proofs
variable {G:(f:FuncId)→(g:aN)→Option (g.A→Option g.B)}
theorem KV{α:Type}(x:ae)(es:List (ae×α)):tB bp x es=es.findIdx? fun e=>decide (e.1=x):=by
 show List.findIdx? (fun e:ae×α=>((x.1.1==e.1.1.1)&&(x.1.2==e.1.1.2))&&(x.2==e.1.2)) es=_
 congr 1
 funext e
 rw[kA x e.1]
 by_cases h:x=e.1
 ·rw[decide_eq_true h,decide_eq_true h.symm]
 ·rw[decide_eq_false h,decide_eq_false (fun k=>h k.symm)]
def fK{β α:Type}[DecidableEq β](x:β):List (β×α)→Option α
 |[]=>none
 |e::r=>if e.1=x then some e.2 else fK x r
theorem KW{β α:Type}[DecidableEq β](x:β):∀es:List (β×α),((es.findIdx? fun e=>decide (e.1=x)).bind fun i=>(es[i]?).map (·.2))=fK x es
 |[]=>rfl
 |e::r=>by
  have ih:=KW x r
  rw[List.findIdx?_cons,fK]
  by_cases h:e.1=x
  ·rw[if_pos (decide_eq_true h),if_pos h];rfl
  ·rw[if_neg (by simpa using h),if_neg h,←ih]
   cases r.findIdx? fun e=>decide (e.1=x)<;>simp
theorem SI{α:Type}(x:ae)(es:List (ae×α)):jh bp x es=fK x es:=by
 have:=KW x es
 rw[←KV]at this
 exact this
theorem SJ{α:Type}{x:ae}(v:α){es:List (ae×α)}(h:x∉es.map (·.1)):mB bp x v es=es++[(x,v)]:=by
 have e:tB bp x es=none:=by
  rw[KV,List.findIdx?_eq_none_iff]
  intro q hq
  exact decide_eq_false fun k=>h (List.mem_map.2 ⟨q,hq,k⟩)
 unfold mB
 split
 ·rename_i i k;rw[e]at k;cases k
 ·rfl
theorem IV{β α:Type}[DecidableEq β]{x:β}{v:α}:∀{es:List (β×α)},(es.map (·.1)).Nodup→(x,v)∈es→fK x es=some v
 |[],_,h=>by cases h
 |e::r,hn,h=>by
  simp only[List.map_cons,List.nodup_cons]at hn
  rw[fK]
  rcases List.mem_cons.1 h with e1|h
  ·subst e1;rw[if_pos rfl]
  ·rw[if_neg (fun k=>hn.1 (by rw[k];exact List.mem_map.2 ⟨_,h,rfl⟩))]
   exact IV hn.2 h
def ib:List ah→Nat→List (ae×Int)
 |[],_=>[]
 |v::r,i=>v.2.1.map (fun x=>(x,(i:Int)))++ib r (i+1)
theorem xF:∀(l:List ah) (i:Nat),(ib l i).map (·.1)=au l
 |[],_=>rfl
 |v::r,i=>by
  have e:(v.2.1.map fun x=>(x,(i:Int))).map (·.1)=v.2.1:=by rw[List.map_map];exact List.map_id _
  rw[ib,iF,List.map_append,xF r,e]
theorem IW:∀(a b:List ah) (i:Nat),ib (a++b) i=ib a i++ib b (i+a.length)
 |[],b,i=>rfl
 |v::r,b,i=>by
  rw[List.cons_append,ib,ib,IW r b,List.append_assoc]
  congr 3
  simp;omega
theorem IX{x:ae}{a:Int}:∀{l:List ah} {i:Nat},(x,a)∈ib l i→∃k v,l[k]? = some v∧a=((i+k:Nat):Int)∧x∈v.2.1
 |[],i,h=>by cases h
 |v::r,i,h=>by
  rw[ib]at h
  rcases List.mem_append.1 h with h|h
  ·obtain⟨y,hy,e⟩:=List.mem_map.1 h
   cases e
   exact⟨0,v,rfl,rfl,hy⟩
  ·obtain⟨k,u,h1,h2,h3⟩:=IX h
   exact⟨k+1,u,by simpa using h1,by rw[h2];congr 1;omega,h3⟩
theorem Mn{x:ae}:∀{l:List ah} {i k:Nat} {v:ah},l[k]? = some v→x∈v.2.1→(x,((i+k:Nat):Int))∈ib l i
 |v::r,i,0,u,h,hx=>by
  simp at h;subst h
  rw[ib];exact List.mem_append_left _ (List.mem_map.2 ⟨x,hx,rfl⟩)
 |v::r,i,k+1,u,h,hx=>by
  rw[ib]
  refine List.mem_append_right _ ?_
  have:=Mn (i:=i+1) (k:=k) (by simpa using h) hx
  rwa [show i+1+k=i+(k+1) by omega]at this
theorem SK(i:Nat):fI (List.range i)++[(i:Int)]=fI (List.range (i+1)):=by rw[List.range_succ];simp[fI]
section
variable {d:aj} {y:hZ.B}
theorem U8(h:Wf d){i:Nat}(hi:i<d.1.length){f:List Int}{nn:Int}
  (next:LX G 256 hZ Tryz.f256 sj (aM Tryz.prog 256 0) ((d.1,(nn,((IntKind.wrap .i64 ((i:Int)+1)),()))),((),(f,(ib (d.1.take (i+1)) 0,()))))=some y):∀(n j:Nat) (es:List (ae×Int)),j+n=d.1[i].2.1.length→es=ib (d.1.take i) 0++(d.1[i].2.1.take j).map (fun x=>(x,(i:Int))) →
  LX G 256 hZ Tryz.f256 vw (aM Tryz.prog 256 1) (((i:Int),(d.1,(nn,((i:Int),(d.1[i].2.1,(((d.1[i].2.1.length:Nat):Int),((j:Int),()))))))),((),(f,(es,()))))=some y:=by
 have hr:=h.uj d.1[i] (List.getElem_mem hi)
 have et:d.1.take (i+1)=d.1.take i++[d.1[i]]:=(List.take_append_getElem hi).symm
 have ev:ib (d.1.take (i+1)) 0=ib (d.1.take i) 0++d.1[i].2.1.map (fun x=>(x,(i:Int))):=by
  rw[et,IW]
  have:(d.1.take i).length=i:=by rw[List.length_take];omega
  rw[this,Nat.zero_add]
  congr 1
  show d.1[i].2.1.map (fun x=>(x,(i:Int)))++[]=_
  rw[List.append_nil]
 have nd:(au (d.1.take i)++d.1[i].2.1).Nodup:=by
  have h1:=h.rw.n
  rw[←List.take_append_drop (i+1) d.1,et,oK,oK]at h1
  have e2:au [d.1[i]]=d.1[i].2.1:=by rw[iF];exact List.append_nil _
  rw[e2]at h1
  exact(List.nodup_append.1 h1).1
 intro n
 induction n with
 |zero =>
  intro j es hj he
  refine ao (j:=1) (by kernel_rfl) ((LL _ _ _).trans ?_)
  refine ag (decide_eq_false (show ¬((j:Int)<((d.1[i].2.1.length:Nat):Int)) by omega)) ?_
  have e:d.1[i].2.1.take j=d.1[i].2.1:=List.take_of_length_le (by omega)
  rw[e,←ev]at he
  subst he
  exact next
 |succ n ih =>
  intro j es hj he
  have aF:j<d.1[i].2.1.length:=by omega
  refine ao (j:=1) (by kernel_rfl) ((LL _ _ _).trans ?_)
  refine af (aX aF) (aa (ax (List.getElem?_eq_getElem aF)) ?_)
  have CZ:d.1[i].2.1[j]∉es.map (·.1):=by
   have e3:((d.1[i].2.1.take j).map fun x=>(x,(i:Int))).map (·.1)=d.1[i].2.1.take j:=by rw[List.map_map];exact List.map_id _
   rw[he,List.map_append,xF,e3,List.mem_append]
   rintro(k|k)
   ·exact(List.nodup_append.1 nd).2.2 _ k _ (List.getElem_mem aF) rfl
   ·obtain⟨q,hq,he⟩:=List.getElem_of_mem k
    have hq1:q<j:=by rw[List.length_take]at hq;omega
    rw[List.getElem_take]at he
    have:=(List.getElem_inj (List.nodup_append.1 nd).2.1).1 he
    omega
  have:=ih (j+1) (mB bp d.1[i].2.1[j] (i:Int) es) (by omega) (by
   rw[SJ _ CZ,he,←List.take_append_getElem aF,List.map_append,List.append_assoc];rfl)
  rw[←aE aF (by omega)]at this
  exact this
theorem U9(h:Wf d)
  (next:LX G 256 hZ Tryz.f256 pO (aM Tryz.prog 256 2) ((ib d.1 0,()),((),(fI (List.range d.1.length),((none,ib d.1 0),()))))=some y):∀(n i:Nat),i+n=d.1.length →
  LX G 256 hZ Tryz.f256 sj (aM Tryz.prog 256 0) ((d.1,(((d.1.length:Nat):Int),((i:Int),()))),((),(fI (List.range i),(ib (d.1.take i) 0,()))))=some y:=by
 have hn:=h.nv
 intro n
 induction n with
 |zero =>
  intro i hi
  have e:i=d.1.length:=by omega
  subst e
  refine ao (j:=0) (by kernel_rfl) ((LK _ _ _).trans ?_)
  refine ag (decide_eq_false (show ¬(((d.1.length:Nat):Int)<((d.1.length:Nat):Int)) by omega)) ?_
  rw[List.take_length]
  exact next
 |succ n ih =>
  intro i hi
  have aF:i<d.1.length:=by omega
  refine ao (j:=0) (by kernel_rfl) ((LK _ _ _).trans ?_)
  refine af (aX aF) (aa (ax (List.getElem?_eq_getElem aF)) ?_)
  refine af (fits (by show(fI (List.range i)).length+1≤_;rw[Cw];simp;omega)) ?_
  have nx:=ih (i+1) (by omega)
  rw[←aE aF (by omega),←SK]at nx
  exact U8 (G:=G) h aF nx d.1[i].2.1.length 0 _ (by omega) (by simp)
end
end Go.Vs
namespace Go.Vs
open Go.Proofs
variable {G:(f:FuncId)→(g:aN)→Option (g.A→Option g.B)}
theorem CA(a b:Nat):Cz a b a=min a b∧Cz a b b=min a b:=by
 unfold Cz
 constructor<;>split<;>omega
structure FoI(d:aj)(rem:List (ae×Int))(g:List Nat):Prop where
 f:Fo g
 n:g.length=d.1.length
 c:∀i,i<d.1.length→cS d (cK d i) (cK d (root g i))
 p:∀(z:ae) (i k:Nat),(z,(i:Int))∈ib d.1 0→(ar z,(k:Int))∈ib d.1 0→(z,(i:Int))∉rem→root g i=root g k
theorem vW{d:aj}(h:Wf d){z:ae}{a:Int}(hm:(z,a)∈ib d.1 0):∃i:Nat,i<d.1.length∧a=(i:Int)∧z∈au d.1∧bM d z=some (cK d i):=by
 obtain⟨k,v,h1,h2,h3⟩:=IX hm
 rw[Nat.zero_add]at h2
 have hv:=List.mem_of_getElem? h1
 refine⟨k,(List.getElem?_eq_some_iff.1 h1).1,h2,bh.2 ⟨v,hv,h3⟩,?_⟩
 rw[m0 h1]
 exact iG h.rw hv h3
theorem KX{d:aj}(h:Wf d){z:ae}(hz:z∈au d.1):∃i:Nat,(z,(i:Int))∈ib d.1 0:=by
 obtain⟨v,hv,hx⟩:=bh.1 hz
 obtain⟨k,hk⟩:=List.getElem?_of_mem hv
 have:=Mn (i:=0) hk hx
 rw[Nat.zero_add]at this
 exact⟨k,this⟩
theorem Mo{d:aj}(h:Wf d){z:ae}{a:Int}(hm:(z,a)∈ib d.1 0):jh bp z (ib d.1 0)=some a:=by
 rw[SI]
 refine IV ?_ hm
 rw[xF];exact h.rw.n
theorem FoI.same{d:aj}(h:Wf d){g:List Nat}(hg:FoI d [] g){a b:ID}(k:cS d a b):∀i j,i<d.1.length→j<d.1.length→cK d i=a→cK d j=b→root g i=root g j:=by
 induction k with
 |refl=>intro i j hi hj h1 h2;rw[jA h.sv hi hj (h1.trans h2.symm)]
 |tail _ s ih =>
  intro i j hi hj h1 h2
  obtain⟨z,hz,s1,s2⟩:=s
  obtain⟨m,hm⟩:=KX h hz
  obtain⟨q,hq⟩:=KX h (h.other hz)
  obtain⟨m',m1,m2,_,m3⟩:=vW h hm
  obtain⟨q',q1,q2,_,q3⟩:=vW h hq
  have em:m'=m:=by omega
  have eq:q'=q:=by omega
  subst em;subst eq
  rw[s1]at m3;rw[s2]at q3
  have r1:=ih i m' hi m1 h1 (Option.some.inj m3).symm
  have r2:=hg.p z m' q' hm hq (by simp)
  have ej:q'=j:=jA h.sv q1 hj ((Option.some.inj q3).symm.trans h2.symm)
  rw[r1,r2,ej]
theorem FoI.can{d:aj}(h:Wf d){g:List Nat}(hg:FoI d [] g):IM d (fI ((List.range d.1.length).map (root g))):=by
 have ns:∀i,i<d.1.length→(fI ((List.range d.1.length).map (root g))).getD i 0=((root g i:Nat):Int):=fun i hi=>by
  unfold fI;simp[List.getD,hi]
 refine⟨⟨by rw[Cw];simp,fun i hi=>⟨root g i,Mm g i,ns i hi,hg.c i hi⟩⟩,fun i hi j hj k=>?_⟩
 rw[ns i hi,hg.same h k i j hi hj rfl rfl]
 have:=Mm g j
 omega
theorem Va(hG:HG G){d:aj}(h:Wf d){g:List Nat}:∀(n i:Nat) (g':List Nat),i+n=d.1.length→Fo g'→g'.length=d.1.length→(∀j,root g' j=root g j) →
  LX G 256 hZ Tryz.f256 vx (aM Tryz.prog 256 3) ((((d.1.length:Nat):Int),((i:Int),())),((),(fI g',(fI ((List.range i).map (root g)),()))))=some ((fI ((List.range d.1.length).map (root g)),()),()):=by
 have TY:=h.nv
 intro n
 induction n with
 |zero =>
  intro i g' hi h1 h2 h3
  have e:i=d.1.length:=by omega
  subst e
  refine ao (j:=3) (by kernel_rfl) ((LN _ _ _).trans ?_)
  exact ag (decide_eq_false (show ¬(((d.1.length:Nat):Int)<((d.1.length:Nat):Int)) by omega)) rfl
 |succ n ih =>
  intro i g' hi h1 h2 h3
  have aF:i<d.1.length:=by omega
  obtain⟨g2,s,e⟩:=SH hG g' i h1 (by omega)
  refine ao (j:=3) (by kernel_rfl) ((LN _ _ _).trans ?_)
  refine af (aX aF) (aa e ?_)
  refine af (fits (by show(fI _).length+1≤_;rw[Cw];simp;omega)) ?_
  have:=ih (i+1) g2 (by omega) s.f (by rw[s.n,h2]) (fun j=>(s.r j).trans (h3 j))
  have e2:fI ((List.range (i+1)).map (root g))=fI ((List.range i).map (root g))++[((root g' i:Nat):Int)]:=by
   rw[List.range_succ,h3 i];simp[fI]
  rw[e2,←aE aF (by omega)]at this
  exact this
theorem Vb(hG:HG G){d:aj}(h:Wf d):∀(n:Nat) (rem:List (ae×Int)) (g:List Nat) (o:Option (ae×Int)),rem.length=n→(∀e∈rem,e∈ib d.1 0)→FoI d rem g →
  LX G 256 hZ Tryz.f256 pO (aM Tryz.prog 256 2) ((ib d.1 0,()),((),(fI g,((o,rem),()))))=some ((labels d,()),()):=by
 intro n
 induction n with
 |zero =>
  intro rem g o hn hr hg
  have e:rem=[]:=List.eq_nil_of_length_eq_zero hn
  subst e
  refine ao (j:=2) (by kernel_rfl) ((LM _ _ _).trans ?_)
  refine af rfl ?_
  have:=Va (G:=G) hG h (g:=g) d.1.length 0 g (by omega) hg.f hg.n (fun _=>rfl)
  rw[(hg.can h).uniq h (fC h)]at this
  have e2:((fI g).length:Int)=((d.1.length:Nat):Int):=by rw[Cw,hg.n]
  rw[←e2]at this
  exact this
 |succ n ih =>
  intro rem g o hn hr hg
  refine ao (j:=2) (by kernel_rfl) ((LM _ _ _).trans ?_)
  refine ag (show rem.isEmpty=false by cases rem with|nil=>simp at hn|cons _ _=>rfl) ?_
  refine mS (show 0<rem.length by omega) fun j hj=>?_
  have hj':j<rem.length:=hj
  refine aa (List.getElem?_eq_getElem hj') ?_
  have hm:=hr _ (List.getElem_mem hj')
  generalize he:rem[j]=e at hm
  obtain⟨z,a⟩:=e
  obtain⟨i,hi,ha,hz,haz⟩:=vW h hm
  subst ha
  obtain⟨k,hk⟩:=KX h (h.other hz)
  obtain⟨k',wc,ek,_,hak⟩:=vW h hk
  have ek':k'=k:=by omega
  subst ek'
  refine aa (Iu (hG _ _ rfl) z (h.side hz)) ?_
  have ns:jh bp (ar z) (ib d.1 0)=some (k':Int):=Mo h hk
  refine af (show(jh bp (ar z) (ib d.1 0)).isSome=true by rw[ns];rfl) ?_
  obtain⟨g',h1,h2,h3,h4⟩:=acw hG g i k' hg.f (by rw[hg.n];exact hi) (by rw[hg.n];exact wc)
  refine aa (a:=((),(fI g',()))) (by
   have:(jh bp (ar z) (ib d.1 0)).getD (0:Int)=(k':Int):=by rw[ns];rfl
   rw[←this]at h4
   exact h4) ?_
  have ahS:IK d (cK d i) (cK d k'):=⟨z,hz,haz,hak⟩
  have cij:cS d (cK d (root g i)) (cK d (root g k')):=((hg.c i hi).symm h).trans (ahS.conn.trans (hg.c k' wc))
  refine ih (rem.eraseIdx j) g' _ (by rw[List.length_eraseIdx,if_pos hj'];omega) (fun e he=>hr e (List.mem_of_mem_eraseIdx he)) ⟨h1,h2.trans hg.n,fun q hq=>?_,fun y p q hp hq hy=>?_⟩
  ·rw[h3 q]
   unfold Cz
   split
   ·rename_i e
    refine(hg.c q hq).trans ?_
    rw[e]
    rcases Nat.le_total (root g i) (root g k') with hle|hle
    ·rw[Nat.max_eq_right hle,Nat.min_eq_left hle];exact cij.symm h
    ·rw[Nat.max_eq_left hle,Nat.min_eq_right hle];exact cij
   ·exact hg.c q hq
  ·rw[h3 p,h3 q]
   by_cases my:(y,(p:Int))∈rem
   ·
    have e:(y,(p:Int))=(z,(i:Int)):=by
     apply Classical.byContradiction
     intro ne
     apply hy
     rw[List.mem_eraseIdx_iff_getElem]
     obtain⟨t,ht,hte⟩:=List.getElem_of_mem my
     refine⟨t,ht,fun k=>?_,hte⟩
     subst k
     exact ne (hte.symm.trans he)
    have e1:y=z:=congrArg Prod.fst e
    have e2:p=i:=by have:=congrArg Prod.snd e;simp at this;omega
    subst e1;subst e2
    have h5:=Mo h hq
    rw[ns]at h5
    have e3:q=k':=by have:=Option.some.inj h5;omega
    subst e3
    rw[(CA _ _).1,(CA _ _).2]
   ·rw[hg.p y p q hp hq my]
theorem KY(n:Nat):∀i,root (List.range n) i=i:=fun i=>by
 cases h:(List.range n)[i]? with
 |none=>exact lC h
 |some x =>
  have:x=i:=by rw[List.getElem?_range (by have:=(List.getElem?_eq_some_iff.1 h).1;simpa using this)]at h;exact(Option.some.inj h).symm
  subst this
  exact lD h
theorem acy(hG:HG G)(d:aj)(h:Wf d):FX G 256 hZ ((d,()),())=some ((labels d,()),()):=by
 refine aw (fn:=Tryz.f256) (hG _ _ rfl) (by kernel_rfl) (by kernel_rfl) ((aa4 _ _ _).trans ?_)
 refine U9 (G:=G) h ?_ d.1.length 0 (by omega)
 refine Vb hG h _ (ib d.1 0) (List.range d.1.length) none rfl (fun _ k=>k) ⟨fun i x hx=>?_,by simp,fun i hi=>?_,fun z i k h1 h2 h3=>absurd h1 h3⟩
 ·have:=(List.getElem?_eq_some_iff.1 hx).1
  rw[List.getElem?_range (by simpa using this)]at hx
  have:=Option.some.inj hx;omega
 ·rw[KY];exact .refl _
end Go.Vs
namespace Go.Vs
open Go.Proofs
variable {G:(f:FuncId)→(g:aN)→Option (g.A→Option g.B)}
structure PG(G:(f:FuncId)→(g:aN)→Option (g.A→Option g.B)):Prop where
 h:HG G
 f:∀d,Wf d→FX G 240 yz ((d,()),())=some ((cW d,()),())
 c:∀d,Wf d→FX G 241 yC ((d,()),())=some ((eZ d,()),())
theorem acz(hp:PG G)(d:aj)(h:Wf d):FX G 226 HI ((d,()),())=some ((((d.1.length:Nat):Int),(((d.2.length:Nat):Int),(((ft d:Nat):Int),(eZ d,())))),()):=by
 have hn:=h.nv
 have hf:=vV h
 have ha:al d.1≤d.1.length:=List.countP_le_length
 refine aw (fn:=Tryz.f226) (hp.h _ _ rfl) (by kernel_rfl) (by kernel_rfl) ((aaX _ _ _).trans ?_)
 refine aa (SD hp.h d.1 (by omega)) ?_
 refine aa (hp.f d h) (aa (hp.c d h) ?_)
 have e:IntKind.wrap .i64 ((((cW d).length:Nat):Int)+((al d.1:Nat):Int))=((ft d:Nat):Int):=by
  rw[wrap_small (by omega) (by omega)];rfl
 exact congrArg (fun n:Int=>some ((((d.1.length:Nat):Int),(((d.2.length:Nat):Int),(n,(eZ d,())))),())) e
theorem acA(hp:PG G)(d:aj)(h:Wf d):FX G 204 HD ((d,()),())=some ((fS d,()),()):=by
 have hn:=h.nv;have br:=h.ne
 have hf:=vV h
 have ha:al d.1≤d.1.length:=List.countP_le_length
 refine aw (fn:=Tryz.f204) (hp.h _ _ rfl) (by kernel_rfl) (by kernel_rfl) ((aaM _ _ _).trans ?_)
 refine aa (acz hp d h) (ag rfl ?_)
 have hr:=m6 h (fC h)
 obtain⟨k,e1,e2⟩:=Sy h hr
 have ec:=sH h
 have OR:(kS d (labels d)).length≤d.1.length:=by
  unfold kS
  rw[List.length_map]
  refine Nat.le_trans (List.length_filter_le _ _) ?_
  simp
 have ZX:ft d≤80+d.1.length:=by unfold ft;omega
 refine congrArg (fun n:Int=>some ((n,()),())) ?_
 show IntKind.wrap .i64 (eZ d-IntKind.wrap .i64 (Int.tdiv (IntKind.wrap .i64 ((IntKind.wrap .i64 (((d.1.length:Nat):Int)-((d.2.length:Nat):Int)))+((ft d:Nat):Int))) 2))=fS d
 rw[e1,ec]
 have hk:(k:Int)≤1000:=by omega
 rw[wrap_small (n:=((d.1.length:Nat):Int)-((d.2.length:Nat):Int)) (by omega) (by omega)]
 rw[wrap_small (n:=((d.1.length:Nat):Int)-((d.2.length:Nat):Int)+((ft d:Nat):Int)) (by omega) (by omega)]
 have e3:((d.1.length:Nat):Int)-((d.2.length:Nat):Int)+((ft d:Nat):Int)=2*((((kS d (labels d)).length:Nat):Int)-(k:Int)):=by omega
 rw[e3,Int.mul_tdiv_cancel_left _ (by decide)]
 rw[wrap_small (n:=(((kS d (labels d)).length:Nat):Int)-(k:Int)) (by omega) (by omega)]
 rw[wrap_small (by omega) (by omega)]
 omega
theorem Vc(hp:PG G):KS G:=fun d h=>by
 refine aw (fn:=Tryz.f172) (hp.h _ _ rfl) (by kernel_rfl) (by kernel_rfl) ((aav _ _ _).trans ?_)
 refine aa (acA hp d h) ?_
 refine congrArg (fun b:Bool=>some ((b,()),())) ?_
 show(fS d==0)=decide (fS d=0)
 rw[Bool.eq_iff_iff];simp
end Go.Vs
