/- What the document says of a -/
import Derived.Test.YtpkfpbpbkabkdaaGreatFormed
set_option linter.unusedVariables false
set_option linter.unusedSimpArgs false
namespace Go.Vs
open Go.Proofs
variable {G:(f:FuncId)→(g:aX)→Option (g.A→Option g.B)}
theorem WR{α:Type}{R:α→α→Prop}(tr:∀a b c,R a b→R b c→R a c){l:List α}(h:∀j x y,l[j]? = some x→l[j+1]? = some y→R x y):l.Pairwise R:=by
 rw[List.pairwise_iff_getElem];have key:∀(n i:Nat) (hi:i<l.length) (hj:i+n+1<l.length),R l[i] l[i+n+1]:=by
  intro n
  induction n with
  |zero=>intro i hi hj;exact h i _ _ (abb hi) (abb hj)
  |succ n ih =>intro i hi hj;exact tr _ _ _ (ih i hi (by omega)) (h (i+n+1) _ _ (abb (by omega)) (abb hj))
 intro i j hi hj Ce;have:=key (j-i-1) i hi (by omega);have e:i+(j-i-1)+1=j:=by omega
 simpa only[e] using this
theorem Qd{i n:Nat}(h0:0<i)(h:i<n)(hn:n≤1073741824):IntKind.wrap .i64 ((i:Int)-1)=((i-1:Nat):Int):=by rw[wrap_small (by omega) (by omega)];omega
theorem am5(hG:HG G)(d:ak)(hv:d.1.length≤50000000)(he:d.2.length≤50000000):FX G 133 B3 ((d,()),())=some ((d.1.map (·.1)++d.2.map (·.1),()),()):=by
 refine aB (hG _ _ rfl) akq ?_;have RH:∀(a:List ID),a.length≤50000000→LX G 133 B3 Tryz.f133 zZ (aS Tryz.prog 133 1) (((0:Int),()),(((d,()),()),(a,())))=some ((a++d.2.map (·.1),()),()):=by intro a ha;have key:=cp d.2 (fun i (s:List ID)=>LX G 133 B3 Tryz.f133 zZ (aS Tryz.prog 133 1) ((i,()),(((d,()),()),(s,())))) (fun r s=>((s++r.map (·.1),()),())) (fun m s=>s.length+m≤100000000) (fun s _=>by refine ax UY (ag (dO _) ?_);simp only[List.map_nil,List.append_nil];rfl) (fun i x r s hi hx B6 hk ih=>by refine ax UY ?_;refine af (bg hi) (aa (aC hx) (af (fits (by simp;omega)) ?_));rw[wI,aK hi (by omega)];have:=ih (s++[x.1]) (by simp;omega);rw[show(x.1::([]:List ID))=[x.1] from rfl];refine this.trans ?_;simp) a (by omega);exact key
 have key:=cp d.1 (fun i (s:List ID)=>LX G 133 B3 Tryz.f133 Ev (aS Tryz.prog 133 0) ((i,()),(((d,()),()),(s,())))) (fun r s=>(((s++r.map (·.1))++d.2.map (·.1),()),())) (fun m s=>s.length+m≤50000000) (fun s hs=>by refine ax UX (ag (dO _) ?_);refine(RH s (by omega)).trans ?_;simp only[List.map_nil,List.append_nil];rfl) (fun i x r s hi hx B6 hk ih=>by refine ax UX ?_;refine af (bg hi) (aa (aC hx) (af (fits (by simp;omega)) ?_));rw[wI,aK hi (by omega)];have:=ih (s++[x.1]) (by simp;omega);rw[show(x.1::([]:List ID))=[x.1] from rfl];refine this.trans ?_;simp) [] (by simpa using hv);exact key
theorem ag9(hG:HG G)(l:List ID)(hl:l.length≤1073741824):∃b,FX G 134 xQ ((l,()),())=some ((b,()),())∧(b=true↔(l.Pairwise fun a b=>gm a b=true)∧∀x∈l,cz x=true):=by
 have loop:∀(n i:Nat),i+n=l.length→(∀j x,j<i→l[j]? = some x→cz x=true)→(∀j x y,j+1<i→l[j]? = some x→l[j+1]? = some y→gm x y=true) → ∃b,LX G 134 xQ Tryz.f134 z5 (aS Tryz.prog 134 0) ((l,((i:Int),())),((),()))=some ((b,()),())∧(b=true↔(l.Pairwise fun a b=>gm a b=true)∧∀x∈l,cz x=true):=by
  intro n
  induction n with
  |zero =>
   intro i hi hm ha;refine⟨true,ax UZ (ag (decide_eq_false (show ¬((i:Int)<((l.length:Nat):Int)) by omega)) rfl),fun _=>⟨?_,fun x hx=>?_⟩,fun _=>rfl⟩
   ·refine WR (R:=fun a b:ID=>gm a b=true) (fun a b c=>iG) fun j x y h1 h2=>ha j x y ?_ h1 h2;have:=(aa9.1 h2).1;omega
   ·obtain⟨j,hj⟩:=adb.1 hx;exact hm j x (by have:=(aa9.1 hj).1;omega) hj
  |succ n ih =>
   intro i hi hm ha;have aH:i<l.length:=by omega
   have hx:l[i]? = some l[i]:=abb aH;have e1:=@UZ (FX G) (LX G 134 xQ Tryz.f134) ((l,((i:Int),())),((),()))
   cases hmi:cz l[i] with
   |false=>exact⟨false,ax (e1.trans (af (bg aH) (aa (aC hx) (aa (Gk (hG _ _ rfl) _) (aZ hmi rfl))))) rfl,fun h=>(by cases h),fun h=>by rw[h.2 _ (List.getElem_mem aH)]at hmi;cases hmi⟩
   |true =>
    have zB:∀j x,j<i+1→l[j]? = some x→cz x=true:=fun j x hj k=>by
     by_cases e:j=i
     ·subst e;rw[hx]at k;cases k;exact hmi
     ·exact hm j x (by omega) k
    by_cases h0:i=0
    ·obtain⟨b,h1,h2⟩:=ih (i+1) (by omega) zB (fun j x y hj=>by omega);refine⟨b,ax (e1.trans (af (bg aH) (aa (aC hx) (aa (Gk (hG _ _ rfl) _) (aZ hmi (ag rfl (ag (decide_eq_false (show ¬((i:Int)>0) by omega)) ?_))))))) rfl,h2⟩;rw[wI,aK aH hl];exact h1
    ·have hy:l[i-1]? = some l[i-1]:=abb (by omega);have e2:bh l (IntKind.wrap .i64 ((i:Int)-1))=some l[i-1]:=by rw[Qd (by omega) aH hl];exact aC hy
     by_cases hc:gm l[i-1] l[i]=true
     ·obtain⟨b,h1,h2⟩:=ih (i+1) (by omega) zB (fun j x y hj k1 k2=>by
       by_cases hji:j+1=i
       ·have ej:j=i-1:=by omega
        subst ej;rw[hy]at k1;rw[show i-1+1=i by omega,hx]at k2
        cases k1;cases k2;exact hc
       ·exact ha j x y (by omega) k1 k2)
      refine⟨b,ax (e1.trans (af (bg aH) (aa (aC hx) (aa (Gk (hG _ _ rfl) _) (aZ hmi (ag rfl (af (decide_eq_true (show((i:Int)>0) by omega)) (aa e2 (aa (aC hx) (aa (Vz (hG _ _ rfl) _ _) (ag (decide_eq_false ?_) ?_))))))))))) rfl,h2⟩
      ·have:=(lB l[i-1] l[i]).2 hc;show ¬(rE l[i-1] l[i]≥0);omega
      ·rw[wI,aK aH hl];exact h1
     ·refine⟨false,ax (e1.trans (af (bg aH) (aa (aC hx) (aa (Gk (hG _ _ rfl) _) (aZ hmi (ag rfl (af (decide_eq_true (show((i:Int)>0) by omega)) (aa e2 (aa (aC hx) (aa (Vz (hG _ _ rfl) _ _) (af (decide_eq_true ?_) rfl))))))))))) rfl,fun h=>(by cases h),fun h=>absurd (adv.1 h.1 (i-1) i (by omega) aH (by omega)) hc⟩;have:=mt (lB l[i-1] l[i]).1 hc;show rE l[i-1] l[i]≥0;omega
 obtain⟨b,h1,h2⟩:=loop l.length 0 (by omega) (fun j x hj=>by omega) (fun j x y hj=>by omega);exact⟨b,aB (hG _ _ rfl) akr h1,h2⟩
theorem aha(hG:HG G)(d:ak)(x:ae)(hs:Sm d)(hn:d.1.length≤24):FX G 163 qo ((d,x,()),())=some (((((aq d.1).count x:Nat):Int),()),()):=by
 refine aB (hG _ _ rfl) aem ?_;have inner:∀(v:ai) (i:Nat) (hv:d.1[i]? = some v) (m k acc:Nat) y,k+m=v.2.1.length→acc+m≤100000000000 → LX G 163 qo Tryz.f163 uC (aS Tryz.prog 163 0) ((((acc+(v.2.1.drop k).count x:Nat):Int),(((i+1:Nat):Int),())),(((d,()),((x,()),())),()))=some y → LX G 163 qo Tryz.f163 ry (aS Tryz.prog 163 1) (((acc:Int),((i:Int),((k:Int),()))),(((d,()),((x,()),())),()))=some y:=by
  intro v i hv m;have SS:v.2.1.length≤50000000:=hs.r v (acd hv);have hi:i<d.1.length:=(aa9.1 hv).1
  induction m with
  |zero =>intro k acc y hk ha hy;refine ax Pc ?_;refine aa (aC hv) (ag (decide_eq_false (show ¬((k:Int)<((v.2.1.length:Nat):Int)) by omega)) ?_);rw[List.drop_eq_nil_of_le (by omega)]at hy;rw[wI,aK hi (by omega)];exact hy
  |succ m ih =>
   intro k acc y hk ha hy;have aH:k<v.2.1.length:=by omega
   have hx:v.2.1[k]? = some v.2.1[k]:=abb aH;refine ax Pc ?_;refine aa (aC hv) (af (bg aH) (aa (aC hv) (aa (aC hx) ?_)));have hb:=lW v.2.1[k] x;rw[List.drop_eq_getElem_cons aH,List.count_cons]at hy;by_cases hc:v.2.1[k]=x
   ·refine af (hb.trans (decide_eq_true hc)) ?_;have w1:IntKind.wrap .i64 ((acc:Int)+1)=((acc+1:Nat):Int):=by rw[wrap_small (by omega) (by omega)];omega
    show LX G 163 qo Tryz.f163 ry (aS Tryz.prog 163 1) ((IntKind.wrap .i64 ((acc:Int)+1),((i:Int),(IntKind.wrap .i64 ((k:Int)+1),()))),(((d,()),((x,()),())),()))=some y;rw[w1,aK aH (by omega)];refine ih (k+1) (acc+1) y (by omega) (by omega) ?_;rw[if_pos (by simpa using hc),show acc+(List.count x (v.2.1.drop (k+1))+1)=acc+1+List.count x (v.2.1.drop (k+1)) by omega]at hy;exact hy
   ·refine ag (hb.trans (decide_eq_false hc)) ?_;rw[wI,aK aH (by omega)];refine ih (k+1) acc y (by omega) (by omega) ?_;rw[if_neg (by simpa using hc)]at hy;exact hy
 have outer:∀(m i acc:Nat),i+m=d.1.length→acc≤i*50000000→LX G 163 qo Tryz.f163 uC (aS Tryz.prog 163 0) (((acc:Int),((i:Int),())),(((d,()),((x,()),())),()))=some ((((acc+(aq (d.1.drop i)).count x:Nat):Int),()),()):=by
  intro m
  induction m with
  |zero =>intro i acc hi ha;refine ax Pb (ag (decide_eq_false (show ¬((i:Int)<((d.1.length:Nat):Int)) by omega)) ?_);rw[List.drop_eq_nil_of_le (by omega)];rfl
  |succ m ih =>
   intro i acc hi ha;have aH:i<d.1.length:=by omega
   have hx:d.1[i]? = some d.1[i]:=abb aH;have SS:d.1[i].2.1.length≤50000000:=hs.r _ (acy aH);refine ax Pb (af (bg aH) ?_);have ue:List.count x d.1[i].2.1≤d.1[i].2.1.length:=List.count_le_length;refine inner d.1[i] i hx d.1[i].2.1.length 0 acc _ (by omega) (by omega) ?_;rw[List.drop_zero];have:=ih (i+1) (acc+List.count x d.1[i].2.1) (by omega) (by omega);refine this.trans ?_;rw[List.drop_eq_getElem_cons aH,jJ,List.count_append,Nat.add_assoc];rfl
 have:=outer d.1.length 0 0 (by omega) (by omega);rw[List.drop_zero,Nat.zero_add]at this;exact this
structure yJ(d:ak):Prop where
 t:∀v∈d.1,bB v.2.1=v.2.1
 e:∀v∈d.1,∀x∈v.2.1,(aL d.2 x.1).isSome=true∧0≤x.2∧x.2≤1
 c:∀e∈d.2,∀s:Int,s=0∨s=1→(aq d.1).count (e.1,s)=1
theorem am6(hG:HG G)(d:ak)(hs:Sm d)(hn:d.1.length≤24):∃b,FX G 135 mG ((d,()),())=some ((b,()),())∧(b=true↔yJ d):=by
 have yV:=hs.e;have WS:∀(m i:Nat),i+m=d.2.length→(∀v∈d.1,bB v.2.1=v.2.1)→(∀v∈d.1,∀x∈v.2.1,(aL d.2 x.1).isSome=true∧0≤x.2∧x.2≤1)→(∀j e,j<i→d.2[j]? = some e→∀s:Int,s=0∨s=1→(aq d.1).count (e.1,s)=1) → ∃b,LX G 135 mG Tryz.f135 z7 (aS Tryz.prog 135 2) (((i:Int),()),(((d,()),()),()))=some ((b,()),())∧(b=true↔yJ d):=by
  intro m
  induction m with
  |zero =>intro i hi h1 h2 h3;refine⟨true,ax U5 (ag (decide_eq_false (show ¬((i:Int)<((d.2.length:Nat):Int)) by omega)) rfl),fun _=>⟨h1,h2,fun e he s hs=>?_⟩,fun _=>rfl⟩;obtain⟨j,hj⟩:=adb.1 he;exact h3 j e (by have:=(aa9.1 hj).1;omega) hj s hs
  |succ m ih =>
   intro i hi h1 h2 h3;have aH:i<d.2.length:=by omega
   have hx:d.2[i]? = some d.2[i]:=abb aH;have key:∀(s:Nat),s≤1→∀y,((aq d.1).count (d.2[i].1,(s:Int))=1→LX G 135 mG Tryz.f135 wC (aS Tryz.prog 135 3) (((i:Int),(((s+1:Nat):Int),())),(((d,()),()),()))=some y)→((aq d.1).count (d.2[i].1,(s:Int))≠1→y=((false,()),())) → LX G 135 mG Tryz.f135 wC (aS Tryz.prog 135 3) (((i:Int),((s:Int),())),(((d,()),()),()))=some y:=by
    intro s KG y k1 k2;refine ax U6 ?_;refine af (decide_eq_true (show((s:Int)<2) by omega)) (aa (aC hx) (aa (aha hG d (d.2[i].1,(s:Int)) hs hn) ?_));by_cases hc:(aq d.1).count (d.2[i].1,(s:Int))=1
    ·refine ag (show((((aq d.1).count (d.2[i].1,(s:Int)):Nat):Int) != 1)=false by rw[hc];rfl) ?_;have w1:IntKind.wrap .i64 ((s:Int)+1)=((s+1:Nat):Int):=by rw[wrap_small (by omega) (by omega)];omega
     rw[wI,w1];exact k1 hc
    ·rw[k2 hc];exact af (show((((aq d.1).count (d.2[i].1,(s:Int)):Nat):Int) != 1)=true by rw[bne_iff_ne];omega) rfl
   have go:∀y,LX G 135 mG Tryz.f135 wC (aS Tryz.prog 135 3) (((i:Int),((0:Int),())),(((d,()),()),()))=some y→LX G 135 mG Tryz.f135 z7 (aS Tryz.prog 135 2) (((i:Int),()),(((d,()),()),()))=some y:=fun y hy =>ax U5 (af (bg aH) hy);by_cases c0:(aq d.1).count (d.2[i].1,((0:Nat):Int))=1
   ·by_cases c1:(aq d.1).count (d.2[i].1,((1:Nat):Int))=1
    ·obtain⟨b,k1,k2⟩:=ih (i+1) (by omega) h1 h2 (fun j e hj yK s hs=>by
      by_cases hji:j=i
      ·subst hji;rw[hx]at yK;cases yK;rcases hs with rfl|rfl
       ·exact c0
       ·exact c1
      ·exact h3 j e (by omega) yK s hs)
     refine⟨b,go _ (key 0 (by omega) _ (fun _=>key 1 (by omega) _ (fun _=>?_) fun h=>absurd c1 h) fun h=>absurd c0 h),k2⟩;refine ax U6 (ag (decide_eq_false (show ¬((((1+1:Nat):Nat):Int)<2) by omega)) ?_);rw[wI,aK aH (by omega)];exact k1
    ·exact⟨false,go _ (key 0 (by omega) _ (fun _=>key 1 (by omega) _ (fun h=>absurd h c1) fun _=>rfl) fun h=>absurd c0 h),fun h=>(by cases h),fun h=>absurd (h.c _ (acy aH) 1 (.inr rfl)) c1⟩
   ·exact⟨false,go _ (key 0 (by omega) _ (fun h=>absurd h c0) fun _=>rfl),fun h=>(by cases h),fun h=>absurd (h.c _ (acy aH) 0 (.inl rfl)) c0⟩
 have ring:∀(v:ai) (i:Nat) (hv:d.1[i]? = some v) (y:Bool) (P:Prop),(P→LX G 135 mG Tryz.f135 wB (aS Tryz.prog 135 0) ((((i+1:Nat):Int),()),(((d,()),()),()))=some ((y,()),()))→(¬P→y=false)→(P↔∀x∈v.2.1,(aL d.2 x.1).isSome=true∧0≤x.2∧x.2≤1) → ∀(m k:Nat),k+m=v.2.1.length→(∀j x,j<k→v.2.1[j]? = some x→(aL d.2 x.1).isSome=true∧0≤x.2∧x.2≤1) → LX G 135 mG Tryz.f135 z6 (aS Tryz.prog 135 1) (((i:Int),(v.2.1,((k:Int),()))),(((d,()),()),()))=some ((y,()),()):=by
  intro v i hv y P hP hnP hPi m;have hi:i<d.1.length:=(aa9.1 hv).1;have SS:v.2.1.length≤50000000:=hs.r v (acd hv)
  induction m with
  |zero =>
   intro k hk hj;have p:P:=hPi.2 fun x hx=>by obtain⟨j,hjx⟩:=adb.1 hx;exact hj j x (by have:=(aa9.1 hjx).1;omega) hjx
   refine ax U4 (ag (decide_eq_false (show ¬((k:Int)<((v.2.1.length:Nat):Int)) by omega)) ?_);rw[wI,aK hi (by omega)];exact hP p
  |succ m ih =>
   intro k hk hj;have aH:k<v.2.1.length:=by omega
   have hx:v.2.1[k]? = some v.2.1[k]:=abb aH;have gI:v.2.1[k]∈v.2.1:=acy aH;refine ax U4 (af (bg aH) (aa (aC hx) (aa (VB (hG _ _ rfl) d v.2.1[k].1 (by omega)) ?_)));have hE:(jY zE (cH d v.2.1[k].1)).2.1=(aL d.2 v.2.1[k].1).isSome:=iF _ _
   cases u4:(aL d.2 v.2.1[k].1).isSome
   case false =>
    rw[hnP fun p=>by have:=(hPi.1 p _ gI).1;rw[u4]at this;cases this];exact aZ (hE.trans u4) rfl
   refine aZ (hE.trans u4) (ag rfl (aa (aC hx) ?_));by_cases h0:v.2.1[k].2<0
   ·rw[hnP fun p=>by have:=(hPi.1 p _ gI).2.1;omega];exact af (decide_eq_true h0) rfl
   refine ag (decide_eq_false h0) (aa (aC hx) ?_);by_cases h1:v.2.1[k].2>1
   ·rw[hnP fun p=>by have:=(hPi.1 p _ gI).2.2;omega];exact af (decide_eq_true h1) rfl
   refine ag (decide_eq_false h1) ?_;rw[wI,aK aH (by omega)];refine ih (k+1) (by omega) fun j x hjk hjx=>?_;by_cases yK:j=k
   ·subst yK;rw[hx]at hjx;cases hjx;exact⟨u4,by omega,by omega⟩
   ·exact hj j x (by omega) hjx
 have WT:∀(m i:Nat),i+m=d.1.length→(∀j v,j<i→d.1[j]? = some v→bB v.2.1=v.2.1∧∀x∈v.2.1,(aL d.2 x.1).isSome=true∧0≤x.2∧x.2≤1) → ∃b,LX G 135 mG Tryz.f135 wB (aS Tryz.prog 135 0) (((i:Int),()),(((d,()),()),()))=some ((b,()),())∧(b=true↔yJ d):=by
  intro m
  induction m with
  |zero =>
   intro i hi hj;have fX:∀v∈d.1,bB v.2.1=v.2.1∧∀x∈v.2.1,(aL d.2 x.1).isSome=true∧0≤x.2∧x.2≤1:=fun v hv=>by obtain⟨j,XM⟩:=adb.1 hv;exact hj j v (by have:=(aa9.1 XM).1;omega) XM
   obtain⟨b,k1,k2⟩:=WS d.2.length 0 (by omega) (fun v hv=>(fX v hv).1) (fun v hv=>(fX v hv).2) (fun j e hj=>by omega);exact⟨b,ax U3 (ag (decide_eq_false (show ¬((i:Int)<((d.1.length:Nat):Int)) by omega)) k1),k2⟩
  |succ m ih =>
   intro i hi hj;have aH:i<d.1.length:=by omega
   have hx:d.1[i]? = some d.1[i]:=abb aH;have SS:d.1[i].2.1.length≤50000000:=hs.r _ (acy aH);have start:∀y,cond (not (decide (d.1[i].2.1=bB d.1[i].2.1))) (some ((false,()),())) (LX G 135 mG Tryz.f135 z6 (aS Tryz.prog 135 1) (((i:Int),(d.1[i].2.1,((0:Int),()))),(((d,()),()),())))=some y → LX G 135 mG Tryz.f135 wB (aS Tryz.prog 135 0) (((i:Int),()),(((d,()),()),()))=some y:=fun y hy =>ax U3 (af (bg aH) (aa (aC hx) (aa (Je hG d.1[i].2.1 (by omega)) (aa (afE hG d.1[i].2.1 (bB d.1[i].2.1) (by omega)) hy))));by_cases ht:d.1[i].2.1=bB d.1[i].2.1
   ·by_cases hp:∀x∈d.1[i].2.1,(aL d.2 x.1).isSome=true∧0≤x.2∧x.2≤1
    ·obtain⟨b,k1,k2⟩:=ih (i+1) (by omega) (fun j v hji XM=>by
      by_cases yK:j=i
      ·subst yK;rw[hx]at XM;cases XM;exact⟨ht.symm,hp⟩
      ·exact hj j v (by omega) XM)
     exact⟨b,start _ (aZ (decide_eq_true ht) (ag rfl (ring d.1[i] i hx b _ (fun _=>k1) (fun h=>absurd hp h) Iff.rfl d.1[i].2.1.length 0 (by omega) fun j x hj=>by omega))),k2⟩
    ·exact⟨false,start _ (aZ (decide_eq_true ht) (ag rfl (ring d.1[i] i hx false _ (fun h=>absurd h hp) (fun _=>rfl) Iff.rfl d.1[i].2.1.length 0 (by omega) fun j x hj=>by omega))),fun h=>(by cases h),fun h=>absurd (h.e _ (acy aH)) hp⟩
   ·exact⟨false,start _ (aZ (decide_eq_false ht) rfl),fun h=>(by cases h),fun h=>absurd (h.t _ (acy aH)).symm ht⟩
 obtain⟨b,k1,k2⟩:=WT d.1.length 0 (by omega) (fun j v hj=>by omega);exact⟨b,aB (hG _ _ rfl) aks k1,k2⟩
theorem ahb{α:Type}(a b:List α):cut (a++b) 0 ((a.length:Nat):Int)=a:=by unfold cut;rw[Int.toNat_natCast,List.take_left];rfl
theorem ahc{α:Type}(a b:List α):cut (a++b) ((a.length:Nat):Int) (((a++b).length:Nat):Int)=b:=by unfold cut;rw[Int.toNat_natCast,Int.toNat_natCast,List.take_length,List.drop_left]
theorem AJ{x:ae}:∀{l:List ae},l.Nodup→x∈l→l.count x=1
 |a::r,hn,hm=>by
  obtain⟨h1,h2⟩:=abv.1 hn;rw[List.count_cons];by_cases e:a=x
  ·subst e;rw[List.count_eq_zero.2 h1];simp
  ·rw[if_neg (by simpa using e)];exact AJ h2 ((abi.1 hm).resolve_left fun k=>e k.symm)
structure Qe(d:ak):Prop where
 v:∀v∈d.1,lY v.2.2.1=true∧jZ v.2.2.2=true
 e:∀e∈d.2,lY e.2.1=true∧jZ e.2.2=true
theorem Zp{d:ak}(nv:d.1.length≤24)(ne:d.2.length≤40)(hv:(d.1.map (·.1)).Pairwise fun a b=>gm a b=true)(mv:∀x∈d.1.map (·.1),cz x=true)(he:(d.2.map (·.1)).Pairwise fun a b=>gm a b=true)(me:∀x∈d.2.map (·.1),cz x=true)(hr:yJ d)(hl:Qe d):Wf d:=by
 have sv:cd d.1:=aea.1 hv;have se:dw d.2:=aea.1 he;refine⟨sv,se,nv,ne,fun v h=>⟨mv _ (ace.2 ⟨v,h,rfl⟩),(hl.v v h).1,(hl.v v h).2,hr.t v h⟩,fun e h=>⟨me _ (ace.2 ⟨e,h,rfl⟩),(hl.e e h).1,(hl.e e h).2⟩,?_⟩;rw[List.perm_iff_count];intro x;by_cases hx:x∈ends d.2
 ·rw[AJ (rI se) hx];obtain⟨e,h1,h2,h3⟩:=cO.1 hx;have:=hr.c e h1 x.2 h3;rw[h2]at this;exact this
 ·rw[List.count_eq_zero.2 hx,List.count_eq_zero];intro hd;obtain⟨v,h1,h2⟩:=aM.1 hd;obtain⟨k1,k2,k3⟩:=hr.e v h1 x h2;obtain⟨e,hee⟩:=ab3.1 k1;exact hx (cO.2 ⟨e,kZ hee,jm hee,by omega⟩)
theorem WU{d:ak}(h:Wf d):yJ d:=by
 refine⟨fun v hv=>(h.gv v hv).t,fun v hv x hx=>?_,fun e he s hs=>?_⟩
 ·obtain⟨e,h1,h2,h3⟩:=cO.1 (h.pd.mem_iff.1 (aM.2 ⟨v,hv,hx⟩));exact⟨by unfold aL;rw[List.find?_isSome];exact⟨e,h1,by simpa using h2⟩,by omega,by omega⟩
 ·rw[h.pd.count_eq];exact AJ (rI h.se) (cO.2 ⟨e,he,rfl,hs⟩)
theorem yL{d:ak}(h:Wf d):((d.1.map (·.1)).Pairwise fun a b=>gm a b=true)∧(∀x∈d.1.map (·.1),cz x=true)∧((d.2.map (·.1)).Pairwise fun a b=>gm a b=true)∧∀x∈d.2.map (·.1),cz x=true:=by
 refine⟨aea.2 h.sv,fun x hx=>?_,aea.2 h.se,fun x hx=>?_⟩
 ·obtain⟨v,hv,rfl⟩:=ace.1 hx;exact(h.gv v hv).i
 ·obtain⟨v,hv,rfl⟩:=ace.1 hx;exact(h.ge v hv).i
theorem acH{d:ak}(h:Wf d):Qe d:=⟨fun v hv=>⟨(h.gv v hv).l,(h.gv v hv).a⟩,fun v hv=>⟨(h.ge v hv).l,(h.ge v hv).a⟩⟩
theorem am8(hG:HG G)(d:ak)(hs:Sm d)(tv:∀v∈d.1,v.2.2.1.size≤100000000)(te:∀e∈d.2,e.2.1.size≤100000000):∃r:Int,FX G 106 su ((d,()),())=some ((r,()),())∧(r=0↔Wf d):=by
 have e0:=@aj6 (FX G) (LX G 106 su Tryz.f106) ((d,()),());have fin:∀{y},cm 106 su Tryz.f106 (FX G) (LX G 106 su Tryz.f106) ((d,()),())=some y→FX G 106 su ((d,()),())=some y:=fun {y} h=>aB (hG _ _ rfl) h rfl;by_cases hn:24<d.1.length
 ·exact⟨3,fin (e0.trans (af (decide_eq_true (show((d.1.length:Nat):Int)>24 by omega)) rfl)),fun h=>(by cases h),fun h=>by have:=h.nv;omega⟩
 by_cases hm:40<d.2.length
 ·exact⟨3,fin (e0.trans (ag (decide_eq_false (show ¬((d.1.length:Nat):Int)>24 by omega)) (af (decide_eq_true (show((d.2.length:Nat):Int)>40 by omega)) rfl))),fun h=>(by cases h),fun h=>by have:=h.ne;omega⟩
 obtain⟨ids,pn⟩:∃ids,ids=d.1.map (·.1)++d.2.map (·.1):=⟨_,rfl⟩;have l1:(d.1.map (·.1)).length=d.1.length:=List.length_map _;have l2:(d.2.map (·.1)).length=d.2.length:=List.length_map _;have pJ:ids.length=d.1.length+d.2.length:=by rw[pn,List.length_append,l1,l2]
 have c1:cut ids 0 ((d.1.length:Nat):Int)=d.1.map (·.1):=by rw[pn,←l1];exact ahb _ _
 have c2:cut ids ((d.1.length:Nat):Int) ((ids.length:Nat):Int)=d.2.map (·.1):=by rw[pn,←l1];exact ahc _ _
 obtain⟨b1,k1,p1⟩:=ag9 hG (d.1.map (·.1)) (by rw[l1];omega);obtain⟨b2,k2,p2⟩:=ag9 hG (d.2.map (·.1)) (by rw[l2];omega);have o1:bu ids.length 0 ((d.1.length:Nat):Int)=true:=by unfold bu;rw[pJ];simp only[Bool.and_eq_true,decide_eq_true_eq];omega
 have o2:bu ids.length ((d.1.length:Nat):Int) ((ids.length:Nat):Int)=true:=by unfold bu;rw[pJ];simp only[Bool.and_eq_true,decide_eq_true_eq];omega
 have kc1:FX G 134 xQ ((cut ids 0 ((d.1.length:Nat):Int),()),())=some ((b1,()),()):=(congrArg (fun q:List ID=>FX G 134 xQ ((q,()),())) c1).trans k1;have kc2:FX G 134 xQ ((cut ids ((d.1.length:Nat):Int) ((ids.length:Nat):Int),()),())=some ((b2,()),()):=(congrArg (fun q:List ID=>FX G 134 xQ ((q,()),())) c2).trans k2;have h82:=am5 hG d hs.v hs.e;rw[←pn]at h82;have pre:∀{y},cond (not b1) (some (((10:Int),()),())) (cond (not b2) (some (((10:Int),()),())) ((FX G 135 mG ((d,()),())).bind fun(y4:((Bool×Unit)×Unit))=>cond (not y4.1.1) (some (((10:Int),()),())) (LX G 106 su Tryz.f106 rB (aS Tryz.prog 106 0) ((((d.1.length:Nat):Int),(true,(true,((0:Int),())))),(((d,()),()),())))))=some y → FX G 106 su ((d,()),())=some y:=fun {y} h=>by refine fin (e0.trans ?_);refine ag (decide_eq_false (show ¬((d.1.length:Nat):Int)>24 by omega)) (ag (decide_eq_false (show ¬((d.2.length:Nat):Int)>40 by omega)) ?_);refine aa h82 (af o1 ?_);refine aa kc1 (af o2 ?_);exact aa kc2 h
 cases JV:b1 with
 |false=>subst JV;exact⟨10,pre rfl,fun h=>(by cases h),fun h=>by have:=p1.2 ⟨(yL h).1,(yL h).2.1⟩;cases this⟩
 |true =>
 cases zp:b2 with
 |false=>subst JV;subst zp;exact⟨10,pre rfl,fun h=>(by cases h),fun h=>by have:=p2.2 ⟨(yL h).2.2.1,(yL h).2.2.2⟩;cases this⟩
 |true =>
 subst JV;subst zp;obtain⟨b3,k3,p3⟩:=am6 hG d hs (by omega)
 cases hb3:b3 with
 |false=>subst hb3;exact⟨10,pre (ag rfl (ag rfl (aa k3 rfl))),fun h=>(by cases h),fun h=>by have:=p3.2 (WU h);cases this⟩
 |true =>
 subst hb3;have WS:∀(m i:Nat) (lb ab:Bool),i+m=d.2.length→(lb=true↔(∀v∈d.1,lY v.2.2.1=true)∧∀j e,j<i→d.2[j]? = some e→lY e.2.1=true)→(ab=true↔(∀v∈d.1,jZ v.2.2.2=true)∧∀j e,j<i→d.2[j]? = some e→jZ e.2.2=true) → ∃r:Int,LX G 106 su Tryz.f106 rC (aS Tryz.prog 106 1) ((lb,(ab,((i:Int),()))),(((d,()),()),()))=some ((r,()),())∧(r=0↔Qe d):=by
  intro m
  induction m with
  |zero =>
   intro i lb ab hi zK mI;have c:∀{y},cond (not lb) (some (((4:Int),()),())) (cond (not ab) (some (((1:Int),()),())) (some (((0:Int),()),())))=some y→LX G 106 su Tryz.f106 rC (aS Tryz.prog 106 1) ((lb,(ab,((i:Int),()))),(((d,()),()),()))=some y:=fun {y} h =>ax UR (ag (decide_eq_false (show ¬((i:Int)<((d.2.length:Nat):Int)) by omega)) h)
   cases lb with
   |false=>exact⟨4,c rfl,fun h=>(by cases h),fun h=>by have:=zK.2 ⟨fun v hv=>(h.v v hv).1,fun j e _ yK=>(h.e e (acd yK)).1⟩;cases this⟩
   |true =>
    cases ab with
    |false=>exact⟨1,c rfl,fun h=>(by cases h),fun h=>by have:=mI.2 ⟨fun v hv=>(h.v v hv).2,fun j e _ yK=>(h.e e (acd yK)).2⟩;cases this⟩
    |true =>
     refine⟨0,c rfl,fun _=>⟨fun v hv=>⟨(zK.1 rfl).1 v hv,(mI.1 rfl).1 v hv⟩,fun e he=>?_⟩,fun _=>rfl⟩;obtain⟨j,hj⟩:=adb.1 he;have hji:j<i:=by have:=(aa9.1 hj).1;omega
     exact⟨(zK.1 rfl).2 j e hji hj,(mI.1 rfl).2 j e hji hj⟩
  |succ m ih =>
   intro i lb ab hi zK mI;have aH:i<d.2.length:=by omega
   have hx:d.2[i]? = some d.2[i]:=abb aH;have f28:=abO (hG 91 zO rfl) d.2[i].2.1 (te _ (acy aH));have f29:=abP (hG 90 BV rfl) d.2[i].2.2;obtain⟨r,q1,q2⟩:=ih (i+1) (lb&&lY d.2[i].2.1) (ab&&jZ d.2[i].2.2) (by omega) ⟨fun h=>by
     simp only[Bool.and_eq_true]at h;exact⟨(zK.1 h.1).1,fun j e hj yK=>by
      by_cases k:j=i
      ·subst k;rw[hx]at yK;cases yK;exact h.2
      ·exact(zK.1 h.1).2 j e (by omega) yK⟩,fun h=>dA (zK.2 ⟨h.1,fun j e hj=>h.2 j e (by omega)⟩) (h.2 i _ (by omega) hx)⟩
    ⟨fun h=>by
     simp only[Bool.and_eq_true]at h;exact⟨(mI.1 h.1).1,fun j e hj yK=>by
      by_cases k:j=i
      ·subst k;rw[hx]at yK;cases yK;exact h.2
      ·exact(mI.1 h.1).2 j e (by omega) yK⟩,fun h=>dA (mI.2 ⟨h.1,fun j e hj=>h.2 j e (by omega)⟩) (h.2 i _ (by omega) hx)⟩
   refine⟨r,ax UR (af (bg aH) ?_),q2⟩;rw[wI,aK aH (by omega)]
   cases lb<;>cases ab
   ·exact q1
   ·exact ag rfl (af rfl (aa (aC hx) (aa f29 q1)))
   ·exact af rfl (aa (aC hx) (aa f28 (ag rfl q1)))
   ·exact af rfl (aa (aC hx) (aa f28 (af rfl (aa (aC hx) (aa f29 q1)))))
 have WT:∀(m i:Nat) (lb ab:Bool),i+m=d.1.length→(lb=true↔∀j v,j<i→d.1[j]? = some v→lY v.2.2.1=true)→(ab=true↔∀j v,j<i→d.1[j]? = some v→jZ v.2.2.2=true) → ∃r:Int,LX G 106 su Tryz.f106 rB (aS Tryz.prog 106 0) ((((d.1.length:Nat):Int),(lb,(ab,((i:Int),())))),(((d,()),()),()))=some ((r,()),())∧(r=0↔Qe d):=by
  intro m
  induction m with
  |zero =>intro i lb ab hi zK mI;obtain⟨r,q1,q2⟩:=WS d.2.length 0 lb ab (by omega) ⟨fun h=>⟨fun v hv=>by obtain⟨j,hj⟩:=adb.1 hv;exact zK.1 h j v (by have:=(aa9.1 hj).1;omega) hj,fun j e hj=>by omega⟩,fun h=>zK.2 fun j v _ XM=>h.1 v (acd XM)⟩ ⟨fun h=>⟨fun v hv=>by obtain⟨j,hj⟩:=adb.1 hv;exact mI.1 h j v (by have:=(aa9.1 hj).1;omega) hj,fun j e hj=>by omega⟩,fun h=>mI.2 fun j v _ XM=>h.1 v (acd XM)⟩;exact⟨r,ax UQ (ag (decide_eq_false (show ¬((i:Int)<((d.1.length:Nat):Int)) by omega)) q1),q2⟩
  |succ m ih =>
   intro i lb ab hi zK mI;have aH:i<d.1.length:=by omega
   have hx:d.1[i]? = some d.1[i]:=abb aH;have f28:=abO (hG 91 zO rfl) d.1[i].2.2.1 (tv _ (acy aH));have f29:=abP (hG 90 BV rfl) d.1[i].2.2.2;obtain⟨r,q1,q2⟩:=ih (i+1) (lb&&lY d.1[i].2.2.1) (ab&&jZ d.1[i].2.2.2) (by omega) ⟨fun h=>by
     simp only[Bool.and_eq_true]at h;exact fun j e hj yK=>by
      by_cases k:j=i
      ·subst k;rw[hx]at yK;cases yK;exact h.2
      ·exact zK.1 h.1 j e (by omega) yK,fun h=>dA (zK.2 fun j e hj=>h j e (by omega)) (h i _ (by omega) hx)⟩
    ⟨fun h=>by
     simp only[Bool.and_eq_true]at h;exact fun j e hj yK=>by
      by_cases k:j=i
      ·subst k;rw[hx]at yK;cases yK;exact h.2
      ·exact mI.1 h.1 j e (by omega) yK,fun h=>dA (mI.2 fun j e hj=>h j e (by omega)) (h i _ (by omega) hx)⟩
   refine⟨r,ax UQ (af (bg aH) ?_),q2⟩;rw[wI,aK aH (by omega)]
   cases lb<;>cases ab
   ·exact q1
   ·exact ag rfl (af rfl (aa (aC hx) (aa f29 q1)))
   ·exact af rfl (aa (aC hx) (aa f28 (ag rfl q1)))
   ·exact af rfl (aa (aC hx) (aa f28 (af rfl (aa (aC hx) (aa f29 q1)))))
 obtain⟨r,q1,q2⟩:=WT d.1.length 0 true true (by omega) ⟨fun _ j v hj=>by omega,fun _=>rfl⟩ ⟨fun _ j v hj=>by omega,fun _=>rfl⟩;refine⟨r,pre (ag rfl (ag rfl (aa k3 (ag rfl q1)))),fun h=>?_,fun h=>q2.2 (acH h)⟩;exact Zp (by omega) (by omega) (p1.1 rfl).1 (p1.1 rfl).2 (p2.1 rfl).1 (p2.1 rfl).2 (p3.1 rfl) (q2.1 h)
theorem am9(hG:HG G)(d:ak)(hs:Sm d)(tv:∀v∈d.1,v.2.2.1.size≤100000000)(te:∀e∈d.2,e.2.1.size≤100000000):∃r:Int,FX G 72 IJ ((d,()),())=some ((r,()),())∧(r=0↔Wf d∧bY d=0):=by
 obtain⟨r,k1,k2⟩:=am8 hG d hs tv te;have e0:=@ajM (FX G) (LX G 72 IJ Tryz.f72) ((d,()),());have fin:∀{y},cm 72 IJ Tryz.f72 (FX G) (LX G 72 IJ Tryz.f72) ((d,()),())=some y→FX G 72 IJ ((d,()),())=some y:=fun {y} h=>aB (hG _ _ rfl) h rfl;by_cases hr:r=0
 ·have hw:=k2.1 hr;have bq:=hw.ne;by_cases hg:bY d=0
  ·exact⟨0,fin (e0.trans (aa k1 (ag (by simp[hr]) (aa (abN hG d hs (by omega)) (ag (by simp[hg]) rfl))))),fun _=>⟨hw,hg⟩,fun _=>rfl⟩
  ·exact⟨11,fin (e0.trans (aa k1 (ag (by simp[hr]) (aa (abN hG d hs (by omega)) (af (by simp[hg]) rfl))))),fun h=>(by cases h),fun h=>absurd h.2 hg⟩
 ·exact⟨r,fin (e0.trans (aa k1 (af (by simp[hr]) rfl))),fun h=>absurd h hr,fun h=>k2.2 h.1⟩
end Go.Vs
