/- What the document says of a -/
import Derived.Test.YtpkfpbpbkabkdaaGreatFormed
set_option linter.unusedVariables false
set_option linter.unusedSimpArgs false
namespace Go.Vs
open Go.Proofs
variable {G:(f:FuncId)→(g:aS)→Option (g.A→Option g.B)}
theorem TZ{α:Type}{R:α→α→Prop}(tr:∀a b c,R a b→R b c→R a c){l:List α}(h:∀j x y,l[j]? = some x→l[j+1]? = some y→R x y):l.Pairwise R:=by
 rw[List.pairwise_iff_getElem];have key:∀(n i:Nat) (hi:i<l.length) (hj:i+n+1<l.length),R l[i] l[i+n+1]:=by
  intro n
  induction n with
  |zero=>intro i hi hj;exact h i _ _ (aaV hi) (aaV hj)
  |succ n ih =>intro i hi hj;exact tr _ _ _ (ih i hi (by omega)) (h (i+n+1) _ _ (aaV (by omega)) (aaV hj))
 intro i j hi hj zY;have:=key (j-i-1) i hi (by omega);have e:i+(j-i-1)+1=j:=by omega
 simpa only[e] using this
theorem Nm{i n:Nat}(h0:0<i)(h:i<n)(hn:n≤1073741824):IntKind.wrap .i64 ((i:Int)-1)=((i-1:Nat):Int):=by rw[wrap_small (by omega) (by omega)];omega
theorem ajR(hG:HG G)(d:aj)(hv:d.1.length≤50000000)(he:d.2.length≤50000000):FX G 133 zL ((d,()),())=some ((d.1.map (·.1)++d.2.map (·.1),()),()):=by
 refine az (hG _ _ rfl) aha ?_;have OJ:∀(a:List ID),a.length≤50000000→LX G 133 zL Tryz.f133 xq (aO Tryz.prog 133 1) (((0:Int),()),(((d,()),()),(a,())))=some ((a++d.2.map (·.1),()),()):=by intro a ha;have key:=bU d.2 (fun i (s:List ID)=>LX G 133 zL Tryz.f133 xq (aO Tryz.prog 133 1) ((i,()),(((d,()),()),(s,())))) (fun r s=>((s++r.map (·.1),()),())) (fun m s=>s.length+m≤100000000) (fun s _=>by refine ao RY (ag (dn _) ?_);simp only[List.map_nil,List.append_nil];rfl) (fun i x r s hi hx zO hk ih=>by refine ao RY ?_;refine af (aY hi) (aa (aA hx) (af (fits (by simp;omega)) ?_));rw[wI,aD hi (by omega)];have:=ih (s++[x.1]) (by simp;omega);rw[show(x.1::([]:List ID))=[x.1] from rfl];refine this.trans ?_;simp) a (by omega);exact key
 have key:=bU d.1 (fun i (s:List ID)=>LX G 133 zL Tryz.f133 Cm (aO Tryz.prog 133 0) ((i,()),(((d,()),()),(s,())))) (fun r s=>(((s++r.map (·.1))++d.2.map (·.1),()),())) (fun m s=>s.length+m≤50000000) (fun s hs=>by refine ao RX (ag (dn _) ?_);refine(OJ s (by omega)).trans ?_;simp only[List.map_nil,List.append_nil];rfl) (fun i x r s hi hx zO hk ih=>by refine ao RX ?_;refine af (aY hi) (aa (aA hx) (af (fits (by simp;omega)) ?_));rw[wI,aD hi (by omega)];have:=ih (s++[x.1]) (by simp;omega);rw[show(x.1::([]:List ID))=[x.1] from rfl];refine this.trans ?_;simp) [] (by simpa using hv);exact key
theorem aef(hG:HG G)(l:List ID)(hl:l.length≤1073741824):∃b,FX G 134 vv ((l,()),())=some ((b,()),())∧(b=true↔(l.Pairwise fun a b=>fh a b=true)∧∀x∈l,cf x=true):=by
 have loop:∀(n i:Nat),i+n=l.length→(∀j x,j<i→l[j]? = some x→cf x=true)→(∀j x y,j+1<i→l[j]? = some x→l[j+1]? = some y→fh x y=true) → ∃b,LX G 134 vv Tryz.f134 xt (aO Tryz.prog 134 0) ((l,((i:Int),())),((),()))=some ((b,()),())∧(b=true↔(l.Pairwise fun a b=>fh a b=true)∧∀x∈l,cf x=true):=by
  intro n
  induction n with
  |zero =>
   intro i hi hm ha;refine⟨true,ao RZ (ag (decide_eq_false (show ¬((i:Int)<((l.length:Nat):Int)) by omega)) rfl),fun _=>⟨?_,fun x hx=>?_⟩,fun _=>rfl⟩
   ·refine TZ (R:=fun a b:ID=>fh a b=true) (fun a b c=>gP) fun j x y h1 h2=>ha j x y ?_ h1 h2;have:=(aaW.1 h2).1;omega
   ·obtain⟨j,hj⟩:=aeC.1 hx;exact hm j x (by have:=(aaW.1 hj).1;omega) hj
  |succ n ih =>
   intro i hi hm ha;have aF:i<l.length:=by omega
   have hx:l[i]? = some l[i]:=aaV aF;have e1:=@RZ (FX G) (LX G 134 vv Tryz.f134) ((l,((i:Int),())),((),()))
   cases ZC:cf l[i] with
   |false=>exact⟨false,ao (e1.trans (af (aY aF) (aa (aA hx) (aa (DU (hG _ _ rfl) _) (aV ZC rfl))))) rfl,fun h=>(by cases h),fun h=>by rw[h.2 _ (List.getElem_mem aF)]at ZC;cases ZC⟩
   |true =>
    have Uo:∀j x,j<i+1→l[j]? = some x→cf x=true:=fun j x hj k=>by
     by_cases e:j=i
     ·subst e;rw[hx]at k;cases k;exact ZC
     ·exact hm j x (by omega) k
    by_cases h0:i=0
    ·obtain⟨b,h1,h2⟩:=ih (i+1) (by omega) Uo (fun j x y hj=>by omega);refine⟨b,ao (e1.trans (af (aY aF) (aa (aA hx) (aa (DU (hG _ _ rfl) _) (aV ZC (ag rfl (ag (decide_eq_false (show ¬((i:Int)>0) by omega)) ?_))))))) rfl,h2⟩;rw[wI,aD aF hl];exact h1
    ·have hy:l[i-1]? = some l[i-1]:=aaV (by omega);have e2:aT l (IntKind.wrap .i64 ((i:Int)-1))=some l[i-1]:=by rw[Nm (by omega) aF hl];exact aA hy
     by_cases hc:fh l[i-1] l[i]=true
     ·obtain⟨b,h1,h2⟩:=ih (i+1) (by omega) Uo (fun j x y hj k1 k2=>by
       by_cases ZD:j+1=i
       ·have ej:j=i-1:=by omega
        subst ej;rw[hy]at k1;rw[show i-1+1=i by omega,hx]at k2
        cases k1;cases k2;exact hc
       ·exact ha j x y (by omega) k1 k2)
      refine⟨b,ao (e1.trans (af (aY aF) (aa (aA hx) (aa (DU (hG _ _ rfl) _) (aV ZC (ag rfl (af (decide_eq_true (show((i:Int)>0) by omega)) (aa e2 (aa (aA hx) (aa (SC (hG _ _ rfl) _ _) (ag (decide_eq_false ?_) ?_))))))))))) rfl,h2⟩
      ·have:=(kh l[i-1] l[i]).2 hc;show ¬(p4 l[i-1] l[i]≥0);omega
      ·rw[wI,aD aF hl];exact h1
     ·refine⟨false,ao (e1.trans (af (aY aF) (aa (aA hx) (aa (DU (hG _ _ rfl) _) (aV ZC (ag rfl (af (decide_eq_true (show((i:Int)>0) by omega)) (aa e2 (aa (aA hx) (aa (SC (hG _ _ rfl) _ _) (af (decide_eq_true ?_) rfl))))))))))) rfl,fun h=>(by cases h),fun h=>absurd (aeS.1 h.1 (i-1) i (by omega) aF (by omega)) hc⟩;have:=mt (kh l[i-1] l[i]).1 hc;show p4 l[i-1] l[i]≥0;omega
 obtain⟨b,h1,h2⟩:=loop l.length 0 (by omega) (fun j x hj=>by omega) (fun j x y hj=>by omega);exact⟨b,az (hG _ _ rfl) ahb h1,h2⟩
theorem aeg(hG:HG G)(d:aj)(x:ae)(hs:Sm d)(hn:d.1.length≤24):FX G 163 oE ((d,x,()),())=some (((((ax d.1).count x:Nat):Int),()),()):=by
 refine az (hG _ _ rfl) abd ?_;have inner:∀(v:ah) (i:Nat) (hv:d.1[i]? = some v) (m k acc:Nat) y,k+m=v.2.1.length→acc+m≤100000000000 → LX G 163 oE Tryz.f163 sy (aO Tryz.prog 163 0) ((((acc+(v.2.1.drop k).count x:Nat):Int),(((i+1:Nat):Int),())),(((d,()),((x,()),())),()))=some y → LX G 163 oE Tryz.f163 pV (aO Tryz.prog 163 1) (((acc:Int),((i:Int),((k:Int),()))),(((d,()),((x,()),())),()))=some y:=by
  intro v i hv m;have PO:v.2.1.length≤50000000:=hs.r v (ac7 hv);have hi:i<d.1.length:=(aaW.1 hv).1
  induction m with
  |zero =>intro k acc y hk ha hy;refine ao Ml ?_;refine aa (aA hv) (ag (decide_eq_false (show ¬((k:Int)<((v.2.1.length:Nat):Int)) by omega)) ?_);rw[List.drop_eq_nil_of_le (by omega)]at hy;rw[wI,aD hi (by omega)];exact hy
  |succ m ih =>
   intro k acc y hk ha hy;have aF:k<v.2.1.length:=by omega
   have hx:v.2.1[k]? = some v.2.1[k]:=aaV aF;refine ao Ml ?_;refine aa (aA hv) (af (aY aF) (aa (aA hv) (aa (aA hx) ?_)));have hb:=jF v.2.1[k] x;rw[List.drop_eq_getElem_cons aF,List.count_cons]at hy;by_cases hc:v.2.1[k]=x
   ·refine af (hb.trans (decide_eq_true hc)) ?_;have w1:IntKind.wrap .i64 ((acc:Int)+1)=((acc+1:Nat):Int):=by rw[wrap_small (by omega) (by omega)];omega
    show LX G 163 oE Tryz.f163 pV (aO Tryz.prog 163 1) ((IntKind.wrap .i64 ((acc:Int)+1),((i:Int),(IntKind.wrap .i64 ((k:Int)+1),()))),(((d,()),((x,()),())),()))=some y;rw[w1,aD aF (by omega)];refine ih (k+1) (acc+1) y (by omega) (by omega) ?_;rw[if_pos (by simpa using hc),show acc+(List.count x (v.2.1.drop (k+1))+1)=acc+1+List.count x (v.2.1.drop (k+1)) by omega]at hy;exact hy
   ·refine ag (hb.trans (decide_eq_false hc)) ?_;rw[wI,aD aF (by omega)];refine ih (k+1) acc y (by omega) (by omega) ?_;rw[if_neg (by simpa using hc)]at hy;exact hy
 have outer:∀(m i acc:Nat),i+m=d.1.length→acc≤i*50000000→LX G 163 oE Tryz.f163 sy (aO Tryz.prog 163 0) (((acc:Int),((i:Int),())),(((d,()),((x,()),())),()))=some ((((acc+(ax (d.1.drop i)).count x:Nat):Int),()),()):=by
  intro m
  induction m with
  |zero =>intro i acc hi ha;refine ao Mk (ag (decide_eq_false (show ¬((i:Int)<((d.1.length:Nat):Int)) by omega)) ?_);rw[List.drop_eq_nil_of_le (by omega)];rfl
  |succ m ih =>
   intro i acc hi ha;have aF:i<d.1.length:=by omega
   have hx:d.1[i]? = some d.1[i]:=aaV aF;have PO:d.1[i].2.1.length≤50000000:=hs.r _ (adg aF);refine ao Mk (af (aY aF) ?_);have rY:List.count x d.1[i].2.1≤d.1[i].2.1.length:=List.count_le_length;refine inner d.1[i] i hx d.1[i].2.1.length 0 acc _ (by omega) (by omega) ?_;rw[List.drop_zero];have:=ih (i+1) (acc+List.count x d.1[i].2.1) (by omega) (by omega);refine this.trans ?_;rw[List.drop_eq_getElem_cons aF,iL,List.count_append,Nat.add_assoc];rfl
 have:=outer d.1.length 0 0 (by omega) (by omega);rw[List.drop_zero,Nat.zero_add]at this;exact this
structure wA(d:aj):Prop where
 t:∀v∈d.1,cx v.2.1=v.2.1
 e:∀v∈d.1,∀x∈v.2.1,(aX d.2 x.1).isSome=true∧0≤x.2∧x.2≤1
 c:∀e∈d.2,∀s:Int,s=0∨s=1→(ax d.1).count (e.1,s)=1
theorem ajS(hG:HG G)(d:aj)(hs:Sm d)(hn:d.1.length≤24):∃b,FX G 135 lk ((d,()),())=some ((b,()),())∧(b=true↔wA d):=by
 have wF:=hs.e;have T0:∀(m i:Nat),i+m=d.2.length→(∀v∈d.1,cx v.2.1=v.2.1)→(∀v∈d.1,∀x∈v.2.1,(aX d.2 x.1).isSome=true∧0≤x.2∧x.2≤1)→(∀j e,j<i→d.2[j]? = some e→∀s:Int,s=0∨s=1→(ax d.1).count (e.1,s)=1) → ∃b,LX G 135 lk Tryz.f135 xw (aO Tryz.prog 135 2) (((i:Int),()),(((d,()),()),()))=some ((b,()),())∧(b=true↔wA d):=by
  intro m
  induction m with
  |zero =>intro i hi h1 h2 h3;refine⟨true,ao R5 (ag (decide_eq_false (show ¬((i:Int)<((d.2.length:Nat):Int)) by omega)) rfl),fun _=>⟨h1,h2,fun e he s hs=>?_⟩,fun _=>rfl⟩;obtain⟨j,hj⟩:=aeC.1 he;exact h3 j e (by have:=(aaW.1 hj).1;omega) hj s hs
  |succ m ih =>
   intro i hi h1 h2 h3;have aF:i<d.2.length:=by omega
   have hx:d.2[i]? = some d.2[i]:=aaV aF;have key:∀(s:Nat),s≤1→∀y,((ax d.1).count (d.2[i].1,(s:Int))=1→LX G 135 lk Tryz.f135 uk (aO Tryz.prog 135 3) (((i:Int),(((s+1:Nat):Int),())),(((d,()),()),()))=some y)→((ax d.1).count (d.2[i].1,(s:Int))≠1→y=((false,()),())) → LX G 135 lk Tryz.f135 uk (aO Tryz.prog 135 3) (((i:Int),((s:Int),())),(((d,()),()),()))=some y:=by
    intro s HV y k1 k2;refine ao R6 ?_;refine af (decide_eq_true (show((s:Int)<2) by omega)) (aa (aA hx) (aa (aeg hG d (d.2[i].1,(s:Int)) hs hn) ?_));by_cases hc:(ax d.1).count (d.2[i].1,(s:Int))=1
    ·refine ag (show((((ax d.1).count (d.2[i].1,(s:Int)):Nat):Int) != 1)=false by rw[hc];rfl) ?_;have w1:IntKind.wrap .i64 ((s:Int)+1)=((s+1:Nat):Int):=by rw[wrap_small (by omega) (by omega)];omega
     rw[wI,w1];exact k1 hc
    ·rw[k2 hc];exact af (show((((ax d.1).count (d.2[i].1,(s:Int)):Nat):Int) != 1)=true by rw[bne_iff_ne];omega) rfl
   have go:∀y,LX G 135 lk Tryz.f135 uk (aO Tryz.prog 135 3) (((i:Int),((0:Int),())),(((d,()),()),()))=some y→LX G 135 lk Tryz.f135 xw (aO Tryz.prog 135 2) (((i:Int),()),(((d,()),()),()))=some y:=fun y hy =>ao R5 (af (aY aF) hy);by_cases c0:(ax d.1).count (d.2[i].1,((0:Nat):Int))=1
   ·by_cases c1:(ax d.1).count (d.2[i].1,((1:Nat):Int))=1
    ·obtain⟨b,k1,k2⟩:=ih (i+1) (by omega) h1 h2 (fun j e hj yh s hs=>by
      by_cases ZD:j=i
      ·subst ZD;rw[hx]at yh;cases yh;rcases hs with rfl|rfl
       ·exact c0
       ·exact c1
      ·exact h3 j e (by omega) yh s hs)
     refine⟨b,go _ (key 0 (by omega) _ (fun _=>key 1 (by omega) _ (fun _=>?_) fun h=>absurd c1 h) fun h=>absurd c0 h),k2⟩;refine ao R6 (ag (decide_eq_false (show ¬((((1+1:Nat):Nat):Int)<2) by omega)) ?_);rw[wI,aD aF (by omega)];exact k1
    ·exact⟨false,go _ (key 0 (by omega) _ (fun _=>key 1 (by omega) _ (fun h=>absurd h c1) fun _=>rfl) fun h=>absurd c0 h),fun h=>(by cases h),fun h=>absurd (h.c _ (adg aF) 1 (.inr rfl)) c1⟩
   ·exact⟨false,go _ (key 0 (by omega) _ (fun h=>absurd h c0) fun _=>rfl),fun h=>(by cases h),fun h=>absurd (h.c _ (adg aF) 0 (.inl rfl)) c0⟩
 have ring:∀(v:ah) (i:Nat) (hv:d.1[i]? = some v) (y:Bool) (P:Prop),(P→LX G 135 lk Tryz.f135 uj (aO Tryz.prog 135 0) ((((i+1:Nat):Int),()),(((d,()),()),()))=some ((y,()),()))→(¬P→y=false)→(P↔∀x∈v.2.1,(aX d.2 x.1).isSome=true∧0≤x.2∧x.2≤1) → ∀(m k:Nat),k+m=v.2.1.length→(∀j x,j<k→v.2.1[j]? = some x→(aX d.2 x.1).isSome=true∧0≤x.2∧x.2≤1) → LX G 135 lk Tryz.f135 xu (aO Tryz.prog 135 1) (((i:Int),(v.2.1,((k:Int),()))),(((d,()),()),()))=some ((y,()),()):=by
  intro v i hv y P hP hnP hPi m;have hi:i<d.1.length:=(aaW.1 hv).1;have PO:v.2.1.length≤50000000:=hs.r v (ac7 hv)
  induction m with
  |zero =>
   intro k hk hj;have p:P:=hPi.2 fun x hx=>by obtain⟨j,hjx⟩:=aeC.1 hx;exact hj j x (by have:=(aaW.1 hjx).1;omega) hjx
   refine ao R4 (ag (decide_eq_false (show ¬((k:Int)<((v.2.1.length:Nat):Int)) by omega)) ?_);rw[wI,aD hi (by omega)];exact hP p
  |succ m ih =>
   intro k hk hj;have aF:k<v.2.1.length:=by omega
   have hx:v.2.1[k]? = some v.2.1[k]:=aaV aF;have gY:v.2.1[k]∈v.2.1:=adg aF;refine ao R4 (af (aY aF) (aa (aA hx) (aa (Gv (hG _ _ rfl) d v.2.1[k].1 (by omega)) ?_)));have hE:(fR zE (bZ d v.2.1[k].1)).2.1=(aX d.2 v.2.1[k].1).isSome:=gO _ _
   cases Ad:(aX d.2 v.2.1[k].1).isSome
   case false =>
    rw[hnP fun p=>by have:=(hPi.1 p _ gY).1;rw[Ad]at this;cases this];exact aV (hE.trans Ad) rfl
   refine aV (hE.trans Ad) (ag rfl (aa (aA hx) ?_));by_cases h0:v.2.1[k].2<0
   ·rw[hnP fun p=>by have:=(hPi.1 p _ gY).2.1;omega];exact af (decide_eq_true h0) rfl
   refine ag (decide_eq_false h0) (aa (aA hx) ?_);by_cases h1:v.2.1[k].2>1
   ·rw[hnP fun p=>by have:=(hPi.1 p _ gY).2.2;omega];exact af (decide_eq_true h1) rfl
   refine ag (decide_eq_false h1) ?_;rw[wI,aD aF (by omega)];refine ih (k+1) (by omega) fun j x hjk hjx=>?_;by_cases yh:j=k
   ·subst yh;rw[hx]at hjx;cases hjx;exact⟨Ad,by omega,by omega⟩
   ·exact hj j x (by omega) hjx
 have T1:∀(m i:Nat),i+m=d.1.length→(∀j v,j<i→d.1[j]? = some v→cx v.2.1=v.2.1∧∀x∈v.2.1,(aX d.2 x.1).isSome=true∧0≤x.2∧x.2≤1) → ∃b,LX G 135 lk Tryz.f135 uj (aO Tryz.prog 135 0) (((i:Int),()),(((d,()),()),()))=some ((b,()),())∧(b=true↔wA d):=by
  intro m
  induction m with
  |zero =>
   intro i hi hj;have eZ:∀v∈d.1,cx v.2.1=v.2.1∧∀x∈v.2.1,(aX d.2 x.1).isSome=true∧0≤x.2∧x.2≤1:=fun v hv=>by obtain⟨j,Uz⟩:=aeC.1 hv;exact hj j v (by have:=(aaW.1 Uz).1;omega) Uz
   obtain⟨b,k1,k2⟩:=T0 d.2.length 0 (by omega) (fun v hv=>(eZ v hv).1) (fun v hv=>(eZ v hv).2) (fun j e hj=>by omega);exact⟨b,ao R1 (ag (decide_eq_false (show ¬((i:Int)<((d.1.length:Nat):Int)) by omega)) k1),k2⟩
  |succ m ih =>
   intro i hi hj;have aF:i<d.1.length:=by omega
   have hx:d.1[i]? = some d.1[i]:=aaV aF;have PO:d.1[i].2.1.length≤50000000:=hs.r _ (adg aF);have start:∀y,cond (not (decide (d.1[i].2.1=cx d.1[i].2.1))) (some ((false,()),())) (LX G 135 lk Tryz.f135 xu (aO Tryz.prog 135 1) (((i:Int),(d.1[i].2.1,((0:Int),()))),(((d,()),()),())))=some y → LX G 135 lk Tryz.f135 uj (aO Tryz.prog 135 0) (((i:Int),()),(((d,()),()),()))=some y:=fun y hy =>ao R1 (af (aY aF) (aa (aA hx) (aa (Gs hG d.1[i].2.1 (by omega)) (aa (acI hG d.1[i].2.1 (cx d.1[i].2.1) (by omega)) hy))));by_cases ht:d.1[i].2.1=cx d.1[i].2.1
   ·by_cases hp:∀x∈d.1[i].2.1,(aX d.2 x.1).isSome=true∧0≤x.2∧x.2≤1
    ·obtain⟨b,k1,k2⟩:=ih (i+1) (by omega) (fun j v ZD Uz=>by
      by_cases yh:j=i
      ·subst yh;rw[hx]at Uz;cases Uz;exact⟨ht.symm,hp⟩
      ·exact hj j v (by omega) Uz)
     exact⟨b,start _ (aV (decide_eq_true ht) (ag rfl (ring d.1[i] i hx b _ (fun _=>k1) (fun h=>absurd hp h) Iff.rfl d.1[i].2.1.length 0 (by omega) fun j x hj=>by omega))),k2⟩
    ·exact⟨false,start _ (aV (decide_eq_true ht) (ag rfl (ring d.1[i] i hx false _ (fun h=>absurd h hp) (fun _=>rfl) Iff.rfl d.1[i].2.1.length 0 (by omega) fun j x hj=>by omega))),fun h=>(by cases h),fun h=>absurd (h.e _ (adg aF)) hp⟩
   ·exact⟨false,start _ (aV (decide_eq_false ht) rfl),fun h=>(by cases h),fun h=>absurd (h.t _ (adg aF)).symm ht⟩
 obtain⟨b,k1,k2⟩:=T1 d.1.length 0 (by omega) (fun j v hj=>by omega);exact⟨b,az (hG _ _ rfl) ahc k1,k2⟩
theorem aeh{α:Type}(a b:List α):cut (a++b) 0 ((a.length:Nat):Int)=a:=by unfold cut;rw[Int.toNat_natCast,List.take_left];rfl
theorem aei{α:Type}(a b:List α):cut (a++b) ((a.length:Nat):Int) (((a++b).length:Nat):Int)=b:=by unfold cut;rw[Int.toNat_natCast,Int.toNat_natCast,List.take_length,List.drop_left]
theorem yi{x:ae}:∀{l:List ae},l.Nodup→x∈l→l.count x=1
 |a::r,hn,hm=>by
  obtain⟨h1,h2⟩:=ac9.1 hn;rw[List.count_cons];by_cases e:a=x
  ·subst e;rw[List.count_eq_zero.2 h1];simp
  ·rw[if_neg (by simpa using e)];exact yi h2 ((aa1.1 hm).resolve_left fun k=>e k.symm)
structure Nn(d:aj):Prop where
 v:∀v∈d.1,mP v.2.2.1=true∧kI v.2.2.2=true
 e:∀e∈d.2,mP e.2.1=true∧kI e.2.2=true
theorem Wr{d:aj}(nv:d.1.length≤24)(ne:d.2.length≤40)(hv:(d.1.map (·.1)).Pairwise fun a b=>fh a b=true)(mv:∀x∈d.1.map (·.1),cf x=true)(he:(d.2.map (·.1)).Pairwise fun a b=>fh a b=true)(me:∀x∈d.2.map (·.1),cf x=true)(hr:wA d)(hl:Nn d):Wf d:=by
 have sv:cc d.1:=ae5.1 hv;have se:dt d.2:=ae5.1 he;refine⟨sv,se,nv,ne,fun v h=>⟨mv _ (adD.2 ⟨v,h,rfl⟩),(hl.v v h).1,(hl.v v h).2,hr.t v h⟩,fun e h=>⟨me _ (adD.2 ⟨e,h,rfl⟩),(hl.e e h).1,(hl.e e h).2⟩,?_⟩;rw[List.perm_iff_count];intro x;by_cases hx:x∈ends d.2
 ·rw[yi (qe se) hx];obtain⟨e,h1,h2,h3⟩:=cH.1 hx;have:=hr.c e h1 x.2 h3;rw[h2]at this;exact this
 ·rw[List.count_eq_zero.2 hx,List.count_eq_zero];intro hd;obtain⟨v,h1,h2⟩:=bh.1 hd;obtain⟨k1,k2,k3⟩:=hr.e v h1 x h2;obtain⟨e,hee⟩:=adf.1 k1;exact hx (cH.2 ⟨e,EN hee,rI hee,by omega⟩)
theorem T2{d:aj}(h:Wf d):wA d:=by
 refine⟨fun v hv=>(h.gv v hv).t,fun v hv x hx=>?_,fun e he s hs=>?_⟩
 ·obtain⟨e,h1,h2,h3⟩:=cH.1 (h.pd.mem_iff.1 (bh.2 ⟨v,hv,hx⟩));exact⟨by unfold aX;rw[List.find?_isSome];exact⟨e,h1,by simpa using h2⟩,by omega,by omega⟩
 ·rw[h.pd.count_eq];exact yi (qe h.se) (cH.2 ⟨e,he,rfl,hs⟩)
theorem wB{d:aj}(h:Wf d):((d.1.map (·.1)).Pairwise fun a b=>fh a b=true)∧(∀x∈d.1.map (·.1),cf x=true)∧((d.2.map (·.1)).Pairwise fun a b=>fh a b=true)∧∀x∈d.2.map (·.1),cf x=true:=by
 refine⟨ae5.2 h.sv,fun x hx=>?_,ae5.2 h.se,fun x hx=>?_⟩
 ·obtain⟨v,hv,rfl⟩:=adD.1 hx;exact(h.gv v hv).i
 ·obtain⟨v,hv,rfl⟩:=adD.1 hx;exact(h.ge v hv).i
theorem ZE{d:aj}(h:Wf d):Nn d:=⟨fun v hv=>⟨(h.gv v hv).l,(h.gv v hv).a⟩,fun v hv=>⟨(h.ge v hv).l,(h.ge v hv).a⟩⟩
theorem ajU(hG:HG G)(d:aj)(hs:Sm d)(tv:∀v∈d.1,v.2.2.1.size≤100000000)(te:∀e∈d.2,e.2.1.size≤100000000):∃r:Int,FX G 106 qC ((d,()),())=some ((r,()),())∧(r=0↔Wf d):=by
 have e0:=@agQ (FX G) (LX G 106 qC Tryz.f106) ((d,()),());have fin:∀{y},bS 106 qC Tryz.f106 (FX G) (LX G 106 qC Tryz.f106) ((d,()),())=some y→FX G 106 qC ((d,()),())=some y:=fun {y} h=>az (hG _ _ rfl) h rfl;by_cases hn:24<d.1.length
 ·exact⟨3,fin (e0.trans (af (decide_eq_true (show((d.1.length:Nat):Int)>24 by omega)) rfl)),fun h=>(by cases h),fun h=>by have:=h.nv;omega⟩
 by_cases hm:40<d.2.length
 ·exact⟨3,fin (e0.trans (ag (decide_eq_false (show ¬((d.1.length:Nat):Int)>24 by omega)) (af (decide_eq_true (show((d.2.length:Nat):Int)>40 by omega)) rfl))),fun h=>(by cases h),fun h=>by have:=h.ne;omega⟩
 obtain⟨ids,nH⟩:∃ids,ids=d.1.map (·.1)++d.2.map (·.1):=⟨_,rfl⟩;have l1:(d.1.map (·.1)).length=d.1.length:=List.length_map _;have l2:(d.2.map (·.1)).length=d.2.length:=List.length_map _;have ng:ids.length=d.1.length+d.2.length:=by rw[nH,List.length_append,l1,l2]
 have c1:cut ids 0 ((d.1.length:Nat):Int)=d.1.map (·.1):=by rw[nH,←l1];exact aeh _ _
 have c2:cut ids ((d.1.length:Nat):Int) ((ids.length:Nat):Int)=d.2.map (·.1):=by rw[nH,←l1];exact aei _ _
 obtain⟨b1,k1,p1⟩:=aef hG (d.1.map (·.1)) (by rw[l1];omega);obtain⟨b2,k2,p2⟩:=aef hG (d.2.map (·.1)) (by rw[l2];omega);have o1:bp ids.length 0 ((d.1.length:Nat):Int)=true:=by unfold bp;rw[ng];simp only[Bool.and_eq_true,decide_eq_true_eq];omega
 have o2:bp ids.length ((d.1.length:Nat):Int) ((ids.length:Nat):Int)=true:=by unfold bp;rw[ng];simp only[Bool.and_eq_true,decide_eq_true_eq];omega
 have kc1:FX G 134 vv ((cut ids 0 ((d.1.length:Nat):Int),()),())=some ((b1,()),()):=(congrArg (fun q:List ID=>FX G 134 vv ((q,()),())) c1).trans k1;have kc2:FX G 134 vv ((cut ids ((d.1.length:Nat):Int) ((ids.length:Nat):Int),()),())=some ((b2,()),()):=(congrArg (fun q:List ID=>FX G 134 vv ((q,()),())) c2).trans k2;have h82:=ajR hG d hs.v hs.e;rw[←nH]at h82;have pre:∀{y},cond (not b1) (some (((10:Int),()),())) (cond (not b2) (some (((10:Int),()),())) ((FX G 135 lk ((d,()),())).bind fun(y4:((Bool×Unit)×Unit))=>cond (not y4.1.1) (some (((10:Int),()),())) (LX G 106 qC Tryz.f106 pX (aO Tryz.prog 106 0) ((((d.1.length:Nat):Int),(true,(true,((0:Int),())))),(((d,()),()),())))))=some y → FX G 106 qC ((d,()),())=some y:=fun {y} h=>by refine fin (e0.trans ?_);refine ag (decide_eq_false (show ¬((d.1.length:Nat):Int)>24 by omega)) (ag (decide_eq_false (show ¬((d.2.length:Nat):Int)>40 by omega)) ?_);refine aa h82 (af o1 ?_);refine aa kc1 (af o2 ?_);exact aa kc2 h
 cases Ox:b1 with
 |false=>subst Ox;exact⟨10,pre rfl,fun h=>(by cases h),fun h=>by have:=p1.2 ⟨(wB h).1,(wB h).2.1⟩;cases this⟩
 |true =>
 cases zZ:b2 with
 |false=>subst Ox;subst zZ;exact⟨10,pre rfl,fun h=>(by cases h),fun h=>by have:=p2.2 ⟨(wB h).2.2.1,(wB h).2.2.2⟩;cases this⟩
 |true =>
 subst Ox;subst zZ;obtain⟨b3,k3,p3⟩:=ajS hG d hs (by omega)
 cases Xh:b3 with
 |false=>subst Xh;exact⟨10,pre (ag rfl (ag rfl (aa k3 rfl))),fun h=>(by cases h),fun h=>by have:=p3.2 (T2 h);cases this⟩
 |true =>
 subst Xh;have T0:∀(m i:Nat) (lb ab:Bool),i+m=d.2.length→(lb=true↔(∀v∈d.1,mP v.2.2.1=true)∧∀j e,j<i→d.2[j]? = some e→mP e.2.1=true)→(ab=true↔(∀v∈d.1,kI v.2.2.2=true)∧∀j e,j<i→d.2[j]? = some e→kI e.2.2=true) → ∃r:Int,LX G 106 qC Tryz.f106 pY (aO Tryz.prog 106 1) ((lb,(ab,((i:Int),()))),(((d,()),()),()))=some ((r,()),())∧(r=0↔Nn d):=by
  intro m
  induction m with
  |zero =>
   intro i lb ab hi xf mJ;have c:∀{y},cond (not lb) (some (((4:Int),()),())) (cond (not ab) (some (((1:Int),()),())) (some (((0:Int),()),())))=some y→LX G 106 qC Tryz.f106 pY (aO Tryz.prog 106 1) ((lb,(ab,((i:Int),()))),(((d,()),()),()))=some y:=fun {y} h =>ao RS (ag (decide_eq_false (show ¬((i:Int)<((d.2.length:Nat):Int)) by omega)) h)
   cases lb with
   |false=>exact⟨4,c rfl,fun h=>(by cases h),fun h=>by have:=xf.2 ⟨fun v hv=>(h.v v hv).1,fun j e _ yh=>(h.e e (ac7 yh)).1⟩;cases this⟩
   |true =>
    cases ab with
    |false=>exact⟨1,c rfl,fun h=>(by cases h),fun h=>by have:=mJ.2 ⟨fun v hv=>(h.v v hv).2,fun j e _ yh=>(h.e e (ac7 yh)).2⟩;cases this⟩
    |true =>
     refine⟨0,c rfl,fun _=>⟨fun v hv=>⟨(xf.1 rfl).1 v hv,(mJ.1 rfl).1 v hv⟩,fun e he=>?_⟩,fun _=>rfl⟩;obtain⟨j,hj⟩:=aeC.1 he;have ZD:j<i:=by have:=(aaW.1 hj).1;omega
     exact⟨(xf.1 rfl).2 j e ZD hj,(mJ.1 rfl).2 j e ZD hj⟩
  |succ m ih =>
   intro i lb ab hi xf mJ;have aF:i<d.2.length:=by omega
   have hx:d.2[i]? = some d.2[i]:=aaV aF;have f28:=YL (hG 91 xh rfl) d.2[i].2.1 (te _ (adg aF));have f29:=YM (hG 90 zB rfl) d.2[i].2.2;obtain⟨r,q1,q2⟩:=ih (i+1) (lb&&mP d.2[i].2.1) (ab&&kI d.2[i].2.2) (by omega) ⟨fun h=>by
     simp only[Bool.and_eq_true]at h;exact⟨(xf.1 h.1).1,fun j e hj yh=>by
      by_cases k:j=i
      ·subst k;rw[hx]at yh;cases yh;exact h.2
      ·exact(xf.1 h.1).2 j e (by omega) yh⟩,fun h=>c9 (xf.2 ⟨h.1,fun j e hj=>h.2 j e (by omega)⟩) (h.2 i _ (by omega) hx)⟩
    ⟨fun h=>by
     simp only[Bool.and_eq_true]at h;exact⟨(mJ.1 h.1).1,fun j e hj yh=>by
      by_cases k:j=i
      ·subst k;rw[hx]at yh;cases yh;exact h.2
      ·exact(mJ.1 h.1).2 j e (by omega) yh⟩,fun h=>c9 (mJ.2 ⟨h.1,fun j e hj=>h.2 j e (by omega)⟩) (h.2 i _ (by omega) hx)⟩
   refine⟨r,ao RS (af (aY aF) ?_),q2⟩;rw[wI,aD aF (by omega)]
   cases lb<;>cases ab
   ·exact q1
   ·exact ag rfl (af rfl (aa (aA hx) (aa f29 q1)))
   ·exact af rfl (aa (aA hx) (aa f28 (ag rfl q1)))
   ·exact af rfl (aa (aA hx) (aa f28 (af rfl (aa (aA hx) (aa f29 q1)))))
 have T1:∀(m i:Nat) (lb ab:Bool),i+m=d.1.length→(lb=true↔∀j v,j<i→d.1[j]? = some v→mP v.2.2.1=true)→(ab=true↔∀j v,j<i→d.1[j]? = some v→kI v.2.2.2=true) → ∃r:Int,LX G 106 qC Tryz.f106 pX (aO Tryz.prog 106 0) ((((d.1.length:Nat):Int),(lb,(ab,((i:Int),())))),(((d,()),()),()))=some ((r,()),())∧(r=0↔Nn d):=by
  intro m
  induction m with
  |zero =>intro i lb ab hi xf mJ;obtain⟨r,q1,q2⟩:=T0 d.2.length 0 lb ab (by omega) ⟨fun h=>⟨fun v hv=>by obtain⟨j,hj⟩:=aeC.1 hv;exact xf.1 h j v (by have:=(aaW.1 hj).1;omega) hj,fun j e hj=>by omega⟩,fun h=>xf.2 fun j v _ Uz=>h.1 v (ac7 Uz)⟩ ⟨fun h=>⟨fun v hv=>by obtain⟨j,hj⟩:=aeC.1 hv;exact mJ.1 h j v (by have:=(aaW.1 hj).1;omega) hj,fun j e hj=>by omega⟩,fun h=>mJ.2 fun j v _ Uz=>h.1 v (ac7 Uz)⟩;exact⟨r,ao RR (ag (decide_eq_false (show ¬((i:Int)<((d.1.length:Nat):Int)) by omega)) q1),q2⟩
  |succ m ih =>
   intro i lb ab hi xf mJ;have aF:i<d.1.length:=by omega
   have hx:d.1[i]? = some d.1[i]:=aaV aF;have f28:=YL (hG 91 xh rfl) d.1[i].2.2.1 (tv _ (adg aF));have f29:=YM (hG 90 zB rfl) d.1[i].2.2.2;obtain⟨r,q1,q2⟩:=ih (i+1) (lb&&mP d.1[i].2.2.1) (ab&&kI d.1[i].2.2.2) (by omega) ⟨fun h=>by
     simp only[Bool.and_eq_true]at h;exact fun j e hj yh=>by
      by_cases k:j=i
      ·subst k;rw[hx]at yh;cases yh;exact h.2
      ·exact xf.1 h.1 j e (by omega) yh,fun h=>c9 (xf.2 fun j e hj=>h j e (by omega)) (h i _ (by omega) hx)⟩
    ⟨fun h=>by
     simp only[Bool.and_eq_true]at h;exact fun j e hj yh=>by
      by_cases k:j=i
      ·subst k;rw[hx]at yh;cases yh;exact h.2
      ·exact mJ.1 h.1 j e (by omega) yh,fun h=>c9 (mJ.2 fun j e hj=>h j e (by omega)) (h i _ (by omega) hx)⟩
   refine⟨r,ao RR (af (aY aF) ?_),q2⟩;rw[wI,aD aF (by omega)]
   cases lb<;>cases ab
   ·exact q1
   ·exact ag rfl (af rfl (aa (aA hx) (aa f29 q1)))
   ·exact af rfl (aa (aA hx) (aa f28 (ag rfl q1)))
   ·exact af rfl (aa (aA hx) (aa f28 (af rfl (aa (aA hx) (aa f29 q1)))))
 obtain⟨r,q1,q2⟩:=T1 d.1.length 0 true true (by omega) ⟨fun _ j v hj=>by omega,fun _=>rfl⟩ ⟨fun _ j v hj=>by omega,fun _=>rfl⟩;refine⟨r,pre (ag rfl (ag rfl (aa k3 (ag rfl q1)))),fun h=>?_,fun h=>q2.2 (ZE h)⟩;exact Wr (by omega) (by omega) (p1.1 rfl).1 (p1.1 rfl).2 (p2.1 rfl).1 (p2.1 rfl).2 (p3.1 rfl) (q2.1 h)
theorem ajV(hG:HG G)(d:aj)(hs:Sm d)(tv:∀v∈d.1,v.2.2.1.size≤100000000)(te:∀e∈d.2,e.2.1.size≤100000000):∃r:Int,FX G 72 FV ((d,()),())=some ((r,()),())∧(r=0↔Wf d∧fX d=0):=by
 obtain⟨r,k1,k2⟩:=ajU hG d hs tv te;have e0:=@agv (FX G) (LX G 72 FV Tryz.f72) ((d,()),());have fin:∀{y},bS 72 FV Tryz.f72 (FX G) (LX G 72 FV Tryz.f72) ((d,()),())=some y→FX G 72 FV ((d,()),())=some y:=fun {y} h=>az (hG _ _ rfl) h rfl;by_cases hr:r=0
 ·have hw:=k2.1 hr;have bw:=hw.ne;by_cases hg:fX d=0
  ·exact⟨0,fin (e0.trans (aa k1 (ag (by simp[hr]) (aa (YK hG d hs (by omega)) (ag (by simp[hg]) rfl))))),fun _=>⟨hw,hg⟩,fun _=>rfl⟩
  ·exact⟨11,fin (e0.trans (aa k1 (ag (by simp[hr]) (aa (YK hG d hs (by omega)) (af (by simp[hg]) rfl))))),fun h=>(by cases h),fun h=>absurd h.2 hg⟩
 ·exact⟨r,fin (e0.trans (aa k1 (af (by simp[hr]) rfl))),fun h=>absurd h hr,fun h=>k2.2 h.1⟩
end Go.Vs
