/- What the document says of a -/
import Derived.Test.YtpkfpbpbkabkdaaGreatFormed
set_option linter.unusedVariables false
set_option linter.unusedSimpArgs false
namespace Go.Vs
open Go.Proofs
variable {G:(f:FuncId)→(g:aX)→Option (g.A→Option g.B)}
theorem W0{α:Type}{R:α→α→Prop}(tr:∀a b c,R a b→R b c→R a c){l:List α}(h:∀j x y,l[j]? = some x→l[j+1]? = some y→R x y):l.Pairwise R:=by
 rw[List.pairwise_iff_getElem];have key:∀(n i:Nat) (hi:i<l.length) (hj:i+n+1<l.length),R l[i] l[i+n+1]:=by
  intro n
  induction n with
  |zero=>intro i hi hj;exact h i _ _ (aa4 hi) (aa4 hj)
  |succ n ih =>intro i hi hj;exact tr _ _ _ (ih i hi (by omega)) (h (i+n+1) _ _ (aa4 (by omega)) (aa4 hj))
 intro i j hi hj Ck;have:=key (j-i-1) i hi (by omega);have e:i+(j-i-1)+1=j:=by omega
 simpa only[e] using this
theorem Qn{i n:Nat}(h0:0<i)(h:i<n)(hn:n≤1073741824):IntKind.wrap .i64 ((i:Int)-1)=((i-1:Nat):Int):=by rw[wrap_small (by omega) (by omega)];omega
theorem anh(hG:HG G)(d:ak)(hv:d.1.length≤50000000)(he:d.2.length≤50000000):FX G 133 B8 ((d,()),())=some ((d.1.map (·.1)++d.2.map (·.1),()),()):=by
 refine aB (hG _ _ rfl) akC ?_;have RV:∀(a:List ID),a.length≤50000000→LX G 133 B8 Tryz.f133 z7 (aS Tryz.prog 133 1) (((0:Int),()),(((d,()),()),(a,())))=some ((a++d.2.map (·.1),()),()):=by intro a ha;have key:=cq d.2 (fun i (s:List ID)=>LX G 133 B8 Tryz.f133 z7 (aS Tryz.prog 133 1) ((i,()),(((d,()),()),(s,())))) (fun r s=>((s++r.map (·.1),()),())) (fun m s=>s.length+m≤100000000) (fun s _=>by refine aw Va (ag (dR _) ?_);simp only[List.map_nil,List.append_nil];rfl) (fun i x r s hi hx Cb hk ih=>by refine aw Va ?_;refine af (ba hi) (aa (aC hx) (af (fits (by simp;omega)) ?_));rw[wI,aI hi (by omega)];have:=ih (s++[x.1]) (by simp;omega);rw[show(x.1::([]:List ID))=[x.1] from rfl];refine this.trans ?_;simp) a (by omega);exact key
 have key:=cq d.1 (fun i (s:List ID)=>LX G 133 B8 Tryz.f133 EC (aS Tryz.prog 133 0) ((i,()),(((d,()),()),(s,())))) (fun r s=>(((s++r.map (·.1))++d.2.map (·.1),()),())) (fun m s=>s.length+m≤50000000) (fun s hs=>by refine aw U9 (ag (dR _) ?_);refine(RV s (by omega)).trans ?_;simp only[List.map_nil,List.append_nil];rfl) (fun i x r s hi hx Cb hk ih=>by refine aw U9 ?_;refine af (ba hi) (aa (aC hx) (af (fits (by simp;omega)) ?_));rw[wI,aI hi (by omega)];have:=ih (s++[x.1]) (by simp;omega);rw[show(x.1::([]:List ID))=[x.1] from rfl];refine this.trans ?_;simp) [] (by simpa using hv);exact key
theorem ahi(hG:HG G)(l:List ID)(hl:l.length≤1073741824):∃b,FX G 134 xT ((l,()),())=some ((b,()),())∧(b=true↔(l.Pairwise fun a b=>gm a b=true)∧∀x∈l,cz x=true):=by
 have loop:∀(n i:Nat),i+n=l.length→(∀j x,j<i→l[j]? = some x→cz x=true)→(∀j x y,j+1<i→l[j]? = some x→l[j+1]? = some y→gm x y=true) → ∃b,LX G 134 xT Tryz.f134 z8 (aS Tryz.prog 134 0) ((l,((i:Int),())),((),()))=some ((b,()),())∧(b=true↔(l.Pairwise fun a b=>gm a b=true)∧∀x∈l,cz x=true):=by
  intro n
  induction n with
  |zero =>
   intro i hi hm ha;refine⟨true,aw Vb (ag (decide_eq_false (show ¬((i:Int)<((l.length:Nat):Int)) by omega)) rfl),fun _=>⟨?_,fun x hx=>?_⟩,fun _=>rfl⟩
   ·refine W0 (R:=fun a b:ID=>gm a b=true) (fun a b c=>iG) fun j x y h1 h2=>ha j x y ?_ h1 h2;have:=(aa2.1 h2).1;omega
   ·obtain⟨j,hj⟩:=adh.1 hx;exact hm j x (by have:=(aa2.1 hj).1;omega) hj
  |succ n ih =>
   intro i hi hm ha;have aG:i<l.length:=by omega
   have hx:l[i]? = some l[i]:=aa4 aG;have e1:=@Vb (FX G) (LX G 134 xT Tryz.f134) ((l,((i:Int),())),((),()))
   cases hmi:cz l[i] with
   |false=>exact⟨false,aw (e1.trans (af (ba aG) (aa (aC hx) (aa (Gt (hG _ _ rfl) _) (aZ hmi rfl))))) rfl,fun h=>(by cases h),fun h=>by rw[h.2 _ (List.getElem_mem aG)]at hmi;cases hmi⟩
   |true =>
    have zH:∀j x,j<i+1→l[j]? = some x→cz x=true:=fun j x hj k=>by
     by_cases e:j=i
     ·subst e;rw[hx]at k;cases k;exact hmi
     ·exact hm j x (by omega) k
    by_cases h0:i=0
    ·obtain⟨b,h1,h2⟩:=ih (i+1) (by omega) zH (fun j x y hj=>by omega);refine⟨b,aw (e1.trans (af (ba aG) (aa (aC hx) (aa (Gt (hG _ _ rfl) _) (aZ hmi (ag rfl (ag (decide_eq_false (show ¬((i:Int)>0) by omega)) ?_))))))) rfl,h2⟩;rw[wI,aI aG hl];exact h1
    ·have hy:l[i-1]? = some l[i-1]:=aa4 (by omega);have e2:bh l (IntKind.wrap .i64 ((i:Int)-1))=some l[i-1]:=by rw[Qn (by omega) aG hl];exact aC hy
     by_cases hc:gm l[i-1] l[i]=true
     ·obtain⟨b,h1,h2⟩:=ih (i+1) (by omega) zH (fun j x y hj k1 k2=>by
       by_cases hji:j+1=i
       ·have ej:j=i-1:=by omega
        subst ej;rw[hy]at k1;rw[show i-1+1=i by omega,hx]at k2
        cases k1;cases k2;exact hc
       ·exact ha j x y (by omega) k1 k2)
      refine⟨b,aw (e1.trans (af (ba aG) (aa (aC hx) (aa (Gt (hG _ _ rfl) _) (aZ hmi (ag rfl (af (decide_eq_true (show((i:Int)>0) by omega)) (aa e2 (aa (aC hx) (aa (VJ (hG _ _ rfl) _ _) (ag (decide_eq_false ?_) ?_))))))))))) rfl,h2⟩
      ·have:=(lC l[i-1] l[i]).2 hc;show ¬(rH l[i-1] l[i]≥0);omega
      ·rw[wI,aI aG hl];exact h1
     ·refine⟨false,aw (e1.trans (af (ba aG) (aa (aC hx) (aa (Gt (hG _ _ rfl) _) (aZ hmi (ag rfl (af (decide_eq_true (show((i:Int)>0) by omega)) (aa e2 (aa (aC hx) (aa (VJ (hG _ _ rfl) _ _) (af (decide_eq_true ?_) rfl))))))))))) rfl,fun h=>(by cases h),fun h=>absurd (adx.1 h.1 (i-1) i (by omega) aG (by omega)) hc⟩;have:=mt (lC l[i-1] l[i]).1 hc;show rH l[i-1] l[i]≥0;omega
 obtain⟨b,h1,h2⟩:=loop l.length 0 (by omega) (fun j x hj=>by omega) (fun j x y hj=>by omega);exact⟨b,aB (hG _ _ rfl) akD h1,h2⟩
theorem ahj(hG:HG G)(d:ak)(x:ae)(hs:Sm d)(hn:d.1.length≤24):FX G 163 qq ((d,x,()),())=some (((((aq d.1).count x:Nat):Int),()),()):=by
 refine aB (hG _ _ rfl) aet ?_;have inner:∀(v:ai) (i:Nat) (hv:d.1[i]? = some v) (m k acc:Nat) y,k+m=v.2.1.length→acc+m≤100000000000 → LX G 163 qq Tryz.f163 uD (aS Tryz.prog 163 0) ((((acc+(v.2.1.drop k).count x:Nat):Int),(((i+1:Nat):Int),())),(((d,()),((x,()),())),()))=some y → LX G 163 qq Tryz.f163 rC (aS Tryz.prog 163 1) (((acc:Int),((i:Int),((k:Int),()))),(((d,()),((x,()),())),()))=some y:=by
  intro v i hv m;have S8:v.2.1.length≤50000000:=hs.r v (ab6 hv);have hi:i<d.1.length:=(aa2.1 hv).1
  induction m with
  |zero =>intro k acc y hk ha hy;refine aw Po ?_;refine aa (aC hv) (ag (decide_eq_false (show ¬((k:Int)<((v.2.1.length:Nat):Int)) by omega)) ?_);rw[List.drop_eq_nil_of_le (by omega)]at hy;rw[wI,aI hi (by omega)];exact hy
  |succ m ih =>
   intro k acc y hk ha hy;have aG:k<v.2.1.length:=by omega
   have hx:v.2.1[k]? = some v.2.1[k]:=aa4 aG;refine aw Po ?_;refine aa (aC hv) (af (ba aG) (aa (aC hv) (aa (aC hx) ?_)));have hb:=lW v.2.1[k] x;rw[List.drop_eq_getElem_cons aG,List.count_cons]at hy;by_cases hc:v.2.1[k]=x
   ·refine af (hb.trans (decide_eq_true hc)) ?_;have w1:IntKind.wrap .i64 ((acc:Int)+1)=((acc+1:Nat):Int):=by rw[wrap_small (by omega) (by omega)];omega
    show LX G 163 qq Tryz.f163 rC (aS Tryz.prog 163 1) ((IntKind.wrap .i64 ((acc:Int)+1),((i:Int),(IntKind.wrap .i64 ((k:Int)+1),()))),(((d,()),((x,()),())),()))=some y;rw[w1,aI aG (by omega)];refine ih (k+1) (acc+1) y (by omega) (by omega) ?_;rw[if_pos (by simpa using hc),show acc+(List.count x (v.2.1.drop (k+1))+1)=acc+1+List.count x (v.2.1.drop (k+1)) by omega]at hy;exact hy
   ·refine ag (hb.trans (decide_eq_false hc)) ?_;rw[wI,aI aG (by omega)];refine ih (k+1) acc y (by omega) (by omega) ?_;rw[if_neg (by simpa using hc)]at hy;exact hy
 have outer:∀(m i acc:Nat),i+m=d.1.length→acc≤i*50000000→LX G 163 qq Tryz.f163 uD (aS Tryz.prog 163 0) (((acc:Int),((i:Int),())),(((d,()),((x,()),())),()))=some ((((acc+(aq (d.1.drop i)).count x:Nat):Int),()),()):=by
  intro m
  induction m with
  |zero =>intro i acc hi ha;refine aw Pn (ag (decide_eq_false (show ¬((i:Int)<((d.1.length:Nat):Int)) by omega)) ?_);rw[List.drop_eq_nil_of_le (by omega)];rfl
  |succ m ih =>
   intro i acc hi ha;have aG:i<d.1.length:=by omega
   have hx:d.1[i]? = some d.1[i]:=aa4 aG;have S8:d.1[i].2.1.length≤50000000:=hs.r _ (acm aG);refine aw Pn (af (ba aG) ?_);have uf:List.count x d.1[i].2.1≤d.1[i].2.1.length:=List.count_le_length;refine inner d.1[i] i hx d.1[i].2.1.length 0 acc _ (by omega) (by omega) ?_;rw[List.drop_zero];have:=ih (i+1) (acc+List.count x d.1[i].2.1) (by omega) (by omega);refine this.trans ?_;rw[List.drop_eq_getElem_cons aG,jJ,List.count_append,Nat.add_assoc];rfl
 have:=outer d.1.length 0 0 (by omega) (by omega);rw[List.drop_zero,Nat.zero_add]at this;exact this
structure yO(d:ak):Prop where
 t:∀v∈d.1,bB v.2.1=v.2.1
 e:∀v∈d.1,∀x∈v.2.1,(aL d.2 x.1).isSome=true∧0≤x.2∧x.2≤1
 c:∀e∈d.2,∀s:Int,s=0∨s=1→(aq d.1).count (e.1,s)=1
theorem ani(hG:HG G)(d:ak)(hs:Sm d)(hn:d.1.length≤24):∃b,FX G 135 mG ((d,()),())=some ((b,()),())∧(b=true↔yO d):=by
 have v5:=hs.e;have W9:∀(m i:Nat),i+m=d.2.length→(∀v∈d.1,bB v.2.1=v.2.1)→(∀v∈d.1,∀x∈v.2.1,(aL d.2 x.1).isSome=true∧0≤x.2∧x.2≤1)→(∀j e,j<i→d.2[j]? = some e→∀s:Int,s=0∨s=1→(aq d.1).count (e.1,s)=1) → ∃b,LX G 135 mG Tryz.f135 Ab (aS Tryz.prog 135 2) (((i:Int),()),(((d,()),()),()))=some ((b,()),())∧(b=true↔yO d):=by
  intro m
  induction m with
  |zero =>intro i hi h1 h2 h3;refine⟨true,aw Ve (ag (decide_eq_false (show ¬((i:Int)<((d.2.length:Nat):Int)) by omega)) rfl),fun _=>⟨h1,h2,fun e he s hs=>?_⟩,fun _=>rfl⟩;obtain⟨j,hj⟩:=adh.1 he;exact h3 j e (by have:=(aa2.1 hj).1;omega) hj s hs
  |succ m ih =>
   intro i hi h1 h2 h3;have aG:i<d.2.length:=by omega
   have hx:d.2[i]? = some d.2[i]:=aa4 aG;have key:∀(s:Nat),s≤1→∀y,((aq d.1).count (d.2[i].1,(s:Int))=1→LX G 135 mG Tryz.f135 wE (aS Tryz.prog 135 3) (((i:Int),(((s+1:Nat):Int),())),(((d,()),()),()))=some y)→((aq d.1).count (d.2[i].1,(s:Int))≠1→y=((false,()),())) → LX G 135 mG Tryz.f135 wE (aS Tryz.prog 135 3) (((i:Int),((s:Int),())),(((d,()),()),()))=some y:=by
    intro s KK y k1 k2;refine aw Vf ?_;refine af (decide_eq_true (show((s:Int)<2) by omega)) (aa (aC hx) (aa (ahj hG d (d.2[i].1,(s:Int)) hs hn) ?_));by_cases hc:(aq d.1).count (d.2[i].1,(s:Int))=1
    ·refine ag (show((((aq d.1).count (d.2[i].1,(s:Int)):Nat):Int) != 1)=false by rw[hc];rfl) ?_;have w1:IntKind.wrap .i64 ((s:Int)+1)=((s+1:Nat):Int):=by rw[wrap_small (by omega) (by omega)];omega
     rw[wI,w1];exact k1 hc
    ·rw[k2 hc];exact af (show((((aq d.1).count (d.2[i].1,(s:Int)):Nat):Int) != 1)=true by rw[bne_iff_ne];omega) rfl
   have go:∀y,LX G 135 mG Tryz.f135 wE (aS Tryz.prog 135 3) (((i:Int),((0:Int),())),(((d,()),()),()))=some y→LX G 135 mG Tryz.f135 Ab (aS Tryz.prog 135 2) (((i:Int),()),(((d,()),()),()))=some y:=fun y hy =>aw Ve (af (ba aG) hy);by_cases c0:(aq d.1).count (d.2[i].1,((0:Nat):Int))=1
   ·by_cases c1:(aq d.1).count (d.2[i].1,((1:Nat):Int))=1
    ·obtain⟨b,k1,k2⟩:=ih (i+1) (by omega) h1 h2 (fun j e hj yR s hs=>by
      by_cases hji:j=i
      ·subst hji;rw[hx]at yR;cases yR;rcases hs with rfl|rfl
       ·exact c0
       ·exact c1
      ·exact h3 j e (by omega) yR s hs)
     refine⟨b,go _ (key 0 (by omega) _ (fun _=>key 1 (by omega) _ (fun _=>?_) fun h=>absurd c1 h) fun h=>absurd c0 h),k2⟩;refine aw Vf (ag (decide_eq_false (show ¬((((1+1:Nat):Nat):Int)<2) by omega)) ?_);rw[wI,aI aG (by omega)];exact k1
    ·exact⟨false,go _ (key 0 (by omega) _ (fun _=>key 1 (by omega) _ (fun h=>absurd h c1) fun _=>rfl) fun h=>absurd c0 h),fun h=>(by cases h),fun h=>absurd (h.c _ (acm aG) 1 (.inr rfl)) c1⟩
   ·exact⟨false,go _ (key 0 (by omega) _ (fun h=>absurd h c0) fun _=>rfl),fun h=>(by cases h),fun h=>absurd (h.c _ (acm aG) 0 (.inl rfl)) c0⟩
 have ring:∀(v:ai) (i:Nat) (hv:d.1[i]? = some v) (y:Bool) (P:Prop),(P→LX G 135 mG Tryz.f135 wD (aS Tryz.prog 135 0) ((((i+1:Nat):Int),()),(((d,()),()),()))=some ((y,()),()))→(¬P→y=false)→(P↔∀x∈v.2.1,(aL d.2 x.1).isSome=true∧0≤x.2∧x.2≤1) → ∀(m k:Nat),k+m=v.2.1.length→(∀j x,j<k→v.2.1[j]? = some x→(aL d.2 x.1).isSome=true∧0≤x.2∧x.2≤1) → LX G 135 mG Tryz.f135 Aa (aS Tryz.prog 135 1) (((i:Int),(v.2.1,((k:Int),()))),(((d,()),()),()))=some ((y,()),()):=by
  intro v i hv y P hP hnP hPi m;have hi:i<d.1.length:=(aa2.1 hv).1;have S8:v.2.1.length≤50000000:=hs.r v (ab6 hv)
  induction m with
  |zero =>
   intro k hk hj;have p:P:=hPi.2 fun x hx=>by obtain⟨j,hjx⟩:=adh.1 hx;exact hj j x (by have:=(aa2.1 hjx).1;omega) hjx
   refine aw Vd (ag (decide_eq_false (show ¬((k:Int)<((v.2.1.length:Nat):Int)) by omega)) ?_);rw[wI,aI hi (by omega)];exact hP p
  |succ m ih =>
   intro k hk hj;have aG:k<v.2.1.length:=by omega
   have hx:v.2.1[k]? = some v.2.1[k]:=aa4 aG;have gI:v.2.1[k]∈v.2.1:=acm aG;refine aw Vd (af (ba aG) (aa (aC hx) (aa (VM (hG _ _ rfl) d v.2.1[k].1 (by omega)) ?_)));have hE:(jY zE (cH d v.2.1[k].1)).2.1=(aL d.2 v.2.1[k].1).isSome:=iF _ _
   cases u5:(aL d.2 v.2.1[k].1).isSome
   case false =>
    rw[hnP fun p=>by have:=(hPi.1 p _ gI).1;rw[u5]at this;cases this];exact aZ (hE.trans u5) rfl
   refine aZ (hE.trans u5) (ag rfl (aa (aC hx) ?_));by_cases h0:v.2.1[k].2<0
   ·rw[hnP fun p=>by have:=(hPi.1 p _ gI).2.1;omega];exact af (decide_eq_true h0) rfl
   refine ag (decide_eq_false h0) (aa (aC hx) ?_);by_cases h1:v.2.1[k].2>1
   ·rw[hnP fun p=>by have:=(hPi.1 p _ gI).2.2;omega];exact af (decide_eq_true h1) rfl
   refine ag (decide_eq_false h1) ?_;rw[wI,aI aG (by omega)];refine ih (k+1) (by omega) fun j x hjk hjx=>?_;by_cases yR:j=k
   ·subst yR;rw[hx]at hjx;cases hjx;exact⟨u5,by omega,by omega⟩
   ·exact hj j x (by omega) hjx
 have Xa:∀(m i:Nat),i+m=d.1.length→(∀j v,j<i→d.1[j]? = some v→bB v.2.1=v.2.1∧∀x∈v.2.1,(aL d.2 x.1).isSome=true∧0≤x.2∧x.2≤1) → ∃b,LX G 135 mG Tryz.f135 wD (aS Tryz.prog 135 0) (((i:Int),()),(((d,()),()),()))=some ((b,()),())∧(b=true↔yO d):=by
  intro m
  induction m with
  |zero =>
   intro i hi hj;have fX:∀v∈d.1,bB v.2.1=v.2.1∧∀x∈v.2.1,(aL d.2 x.1).isSome=true∧0≤x.2∧x.2≤1:=fun v hv=>by obtain⟨j,XV⟩:=adh.1 hv;exact hj j v (by have:=(aa2.1 XV).1;omega) XV
   obtain⟨b,k1,k2⟩:=W9 d.2.length 0 (by omega) (fun v hv=>(fX v hv).1) (fun v hv=>(fX v hv).2) (fun j e hj=>by omega);exact⟨b,aw Vc (ag (decide_eq_false (show ¬((i:Int)<((d.1.length:Nat):Int)) by omega)) k1),k2⟩
  |succ m ih =>
   intro i hi hj;have aG:i<d.1.length:=by omega
   have hx:d.1[i]? = some d.1[i]:=aa4 aG;have S8:d.1[i].2.1.length≤50000000:=hs.r _ (acm aG);have start:∀y,cond (not (decide (d.1[i].2.1=bB d.1[i].2.1))) (some ((false,()),())) (LX G 135 mG Tryz.f135 Aa (aS Tryz.prog 135 1) (((i:Int),(d.1[i].2.1,((0:Int),()))),(((d,()),()),())))=some y → LX G 135 mG Tryz.f135 wD (aS Tryz.prog 135 0) (((i:Int),()),(((d,()),()),()))=some y:=fun y hy =>aw Vc (af (ba aG) (aa (aC hx) (aa (Ji hG d.1[i].2.1 (by omega)) (aa (afL hG d.1[i].2.1 (bB d.1[i].2.1) (by omega)) hy))));by_cases ht:d.1[i].2.1=bB d.1[i].2.1
   ·by_cases hp:∀x∈d.1[i].2.1,(aL d.2 x.1).isSome=true∧0≤x.2∧x.2≤1
    ·obtain⟨b,k1,k2⟩:=ih (i+1) (by omega) (fun j v hji XV=>by
      by_cases yR:j=i
      ·subst yR;rw[hx]at XV;cases XV;exact⟨ht.symm,hp⟩
      ·exact hj j v (by omega) XV)
     exact⟨b,start _ (aZ (decide_eq_true ht) (ag rfl (ring d.1[i] i hx b _ (fun _=>k1) (fun h=>absurd hp h) Iff.rfl d.1[i].2.1.length 0 (by omega) fun j x hj=>by omega))),k2⟩
    ·exact⟨false,start _ (aZ (decide_eq_true ht) (ag rfl (ring d.1[i] i hx false _ (fun h=>absurd h hp) (fun _=>rfl) Iff.rfl d.1[i].2.1.length 0 (by omega) fun j x hj=>by omega))),fun h=>(by cases h),fun h=>absurd (h.e _ (acm aG)) hp⟩
   ·exact⟨false,start _ (aZ (decide_eq_false ht) rfl),fun h=>(by cases h),fun h=>absurd (h.t _ (acm aG)).symm ht⟩
 obtain⟨b,k1,k2⟩:=Xa d.1.length 0 (by omega) (fun j v hj=>by omega);exact⟨b,aB (hG _ _ rfl) akE k1,k2⟩
theorem ahk{α:Type}(a b:List α):cut (a++b) 0 ((a.length:Nat):Int)=a:=by unfold cut;rw[Int.toNat_natCast,List.take_left];rfl
theorem ahl{α:Type}(a b:List α):cut (a++b) ((a.length:Nat):Int) (((a++b).length:Nat):Int)=b:=by unfold cut;rw[Int.toNat_natCast,Int.toNat_natCast,List.take_length,List.drop_left]
theorem AM{x:ae}:∀{l:List ae},l.Nodup→x∈l→l.count x=1
 |a::r,hn,hm=>by
  obtain⟨h1,h2⟩:=abv.1 hn;rw[List.count_cons];by_cases e:a=x
  ·subst e;rw[List.count_eq_zero.2 h1];simp
  ·rw[if_neg (by simpa using e)];exact AM h2 ((abd.1 hm).resolve_left fun k=>e k.symm)
structure Qo(d:ak):Prop where
 v:∀v∈d.1,lY v.2.2.1=true∧jZ v.2.2.2=true
 e:∀e∈d.2,lY e.2.1=true∧jZ e.2.2=true
theorem Zy{d:ak}(nv:d.1.length≤24)(ne:d.2.length≤40)(hv:(d.1.map (·.1)).Pairwise fun a b=>gm a b=true)(mv:∀x∈d.1.map (·.1),cz x=true)(he:(d.2.map (·.1)).Pairwise fun a b=>gm a b=true)(me:∀x∈d.2.map (·.1),cz x=true)(hr:yO d)(hl:Qo d):Wf d:=by
 have sv:cd d.1:=aeb.1 hv;have se:dx d.2:=aeb.1 he;refine⟨sv,se,nv,ne,fun v h=>⟨mv _ (aca.2 ⟨v,h,rfl⟩),(hl.v v h).1,(hl.v v h).2,hr.t v h⟩,fun e h=>⟨me _ (aca.2 ⟨e,h,rfl⟩),(hl.e e h).1,(hl.e e h).2⟩,?_⟩;rw[List.perm_iff_count];intro x;by_cases hx:x∈ends d.2
 ·rw[AM (rL se) hx];obtain⟨e,h1,h2,h3⟩:=cO.1 hx;have:=hr.c e h1 x.2 h3;rw[h2]at this;exact this
 ·rw[List.count_eq_zero.2 hx,List.count_eq_zero];intro hd;obtain⟨v,h1,h2⟩:=aM.1 hd;obtain⟨k1,k2,k3⟩:=hr.e v h1 x h2;obtain⟨e,hee⟩:=abC.1 k1;exact hx (cO.2 ⟨e,k9 hee,jm hee,by omega⟩)
theorem Xb{d:ak}(h:Wf d):yO d:=by
 refine⟨fun v hv=>(h.gv v hv).t,fun v hv x hx=>?_,fun e he s hs=>?_⟩
 ·obtain⟨e,h1,h2,h3⟩:=cO.1 (h.pd.mem_iff.1 (aM.2 ⟨v,hv,hx⟩));exact⟨by unfold aL;rw[List.find?_isSome];exact⟨e,h1,by simpa using h2⟩,by omega,by omega⟩
 ·rw[h.pd.count_eq];exact AM (rL h.se) (cO.2 ⟨e,he,rfl,hs⟩)
theorem yS{d:ak}(h:Wf d):((d.1.map (·.1)).Pairwise fun a b=>gm a b=true)∧(∀x∈d.1.map (·.1),cz x=true)∧((d.2.map (·.1)).Pairwise fun a b=>gm a b=true)∧∀x∈d.2.map (·.1),cz x=true:=by
 refine⟨aeb.2 h.sv,fun x hx=>?_,aeb.2 h.se,fun x hx=>?_⟩
 ·obtain⟨v,hv,rfl⟩:=aca.1 hx;exact(h.gv v hv).i
 ·obtain⟨v,hv,rfl⟩:=aca.1 hx;exact(h.ge v hv).i
theorem acO{d:ak}(h:Wf d):Qo d:=⟨fun v hv=>⟨(h.gv v hv).l,(h.gv v hv).a⟩,fun v hv=>⟨(h.ge v hv).l,(h.ge v hv).a⟩⟩
theorem ank(hG:HG G)(d:ak)(hs:Sm d)(tv:∀v∈d.1,v.2.2.1.size≤100000000)(te:∀e∈d.2,e.2.1.size≤100000000):∃r:Int,FX G 106 sB ((d,()),())=some ((r,()),())∧(r=0↔Wf d):=by
 have e0:=@aki (FX G) (LX G 106 sB Tryz.f106) ((d,()),());have fin:∀{y},cp 106 sB Tryz.f106 (FX G) (LX G 106 sB Tryz.f106) ((d,()),())=some y→FX G 106 sB ((d,()),())=some y:=fun {y} h=>aB (hG _ _ rfl) h rfl;by_cases hn:24<d.1.length
 ·exact⟨3,fin (e0.trans (af (decide_eq_true (show((d.1.length:Nat):Int)>24 by omega)) rfl)),fun h=>(by cases h),fun h=>by have:=h.nv;omega⟩
 by_cases hm:40<d.2.length
 ·exact⟨3,fin (e0.trans (ag (decide_eq_false (show ¬((d.1.length:Nat):Int)>24 by omega)) (af (decide_eq_true (show((d.2.length:Nat):Int)>40 by omega)) rfl))),fun h=>(by cases h),fun h=>by have:=h.ne;omega⟩
 obtain⟨ids,py⟩:∃ids,ids=d.1.map (·.1)++d.2.map (·.1):=⟨_,rfl⟩;have l1:(d.1.map (·.1)).length=d.1.length:=List.length_map _;have l2:(d.2.map (·.1)).length=d.2.length:=List.length_map _;have pM:ids.length=d.1.length+d.2.length:=by rw[py,List.length_append,l1,l2]
 have c1:cut ids 0 ((d.1.length:Nat):Int)=d.1.map (·.1):=by rw[py,←l1];exact ahk _ _
 have c2:cut ids ((d.1.length:Nat):Int) ((ids.length:Nat):Int)=d.2.map (·.1):=by rw[py,←l1];exact ahl _ _
 obtain⟨b1,k1,p1⟩:=ahi hG (d.1.map (·.1)) (by rw[l1];omega);obtain⟨b2,k2,p2⟩:=ahi hG (d.2.map (·.1)) (by rw[l2];omega);have o1:bu ids.length 0 ((d.1.length:Nat):Int)=true:=by unfold bu;rw[pM];simp only[Bool.and_eq_true,decide_eq_true_eq];omega
 have o2:bu ids.length ((d.1.length:Nat):Int) ((ids.length:Nat):Int)=true:=by unfold bu;rw[pM];simp only[Bool.and_eq_true,decide_eq_true_eq];omega
 have kc1:FX G 134 xT ((cut ids 0 ((d.1.length:Nat):Int),()),())=some ((b1,()),()):=(congrArg (fun q:List ID=>FX G 134 xT ((q,()),())) c1).trans k1;have kc2:FX G 134 xT ((cut ids ((d.1.length:Nat):Int) ((ids.length:Nat):Int),()),())=some ((b2,()),()):=(congrArg (fun q:List ID=>FX G 134 xT ((q,()),())) c2).trans k2;have h82:=anh hG d hs.v hs.e;rw[←py]at h82;have pre:∀{y},cond (not b1) (some (((10:Int),()),())) (cond (not b2) (some (((10:Int),()),())) ((FX G 135 mG ((d,()),())).bind fun(y4:((Bool×Unit)×Unit))=>cond (not y4.1.1) (some (((10:Int),()),())) (LX G 106 sB Tryz.f106 rE (aS Tryz.prog 106 0) ((((d.1.length:Nat):Int),(true,(true,((0:Int),())))),(((d,()),()),())))))=some y → FX G 106 sB ((d,()),())=some y:=fun {y} h=>by refine fin (e0.trans ?_);refine ag (decide_eq_false (show ¬((d.1.length:Nat):Int)>24 by omega)) (ag (decide_eq_false (show ¬((d.2.length:Nat):Int)>40 by omega)) ?_);refine aa h82 (af o1 ?_);refine aa kc1 (af o2 ?_);exact aa kc2 h
 cases J0:b1 with
 |false=>subst J0;exact⟨10,pre rfl,fun h=>(by cases h),fun h=>by have:=p1.2 ⟨(yS h).1,(yS h).2.1⟩;cases this⟩
 |true =>
 cases zt:b2 with
 |false=>subst J0;subst zt;exact⟨10,pre rfl,fun h=>(by cases h),fun h=>by have:=p2.2 ⟨(yS h).2.2.1,(yS h).2.2.2⟩;cases this⟩
 |true =>
 subst J0;subst zt;obtain⟨b3,k3,p3⟩:=ani hG d hs (by omega)
 cases hb3:b3 with
 |false=>subst hb3;exact⟨10,pre (ag rfl (ag rfl (aa k3 rfl))),fun h=>(by cases h),fun h=>by have:=p3.2 (Xb h);cases this⟩
 |true =>
 subst hb3;have W9:∀(m i:Nat) (lb ab:Bool),i+m=d.2.length→(lb=true↔(∀v∈d.1,lY v.2.2.1=true)∧∀j e,j<i→d.2[j]? = some e→lY e.2.1=true)→(ab=true↔(∀v∈d.1,jZ v.2.2.2=true)∧∀j e,j<i→d.2[j]? = some e→jZ e.2.2=true) → ∃r:Int,LX G 106 sB Tryz.f106 rF (aS Tryz.prog 106 1) ((lb,(ab,((i:Int),()))),(((d,()),()),()))=some ((r,()),())∧(r=0↔Qo d):=by
  intro m
  induction m with
  |zero =>
   intro i lb ab hi zN mI;have c:∀{y},cond (not lb) (some (((4:Int),()),())) (cond (not ab) (some (((1:Int),()),())) (some (((0:Int),()),())))=some y→LX G 106 sB Tryz.f106 rF (aS Tryz.prog 106 1) ((lb,(ab,((i:Int),()))),(((d,()),()),()))=some y:=fun {y} h =>aw U4 (ag (decide_eq_false (show ¬((i:Int)<((d.2.length:Nat):Int)) by omega)) h)
   cases lb with
   |false=>exact⟨4,c rfl,fun h=>(by cases h),fun h=>by have:=zN.2 ⟨fun v hv=>(h.v v hv).1,fun j e _ yR=>(h.e e (ab6 yR)).1⟩;cases this⟩
   |true =>
    cases ab with
    |false=>exact⟨1,c rfl,fun h=>(by cases h),fun h=>by have:=mI.2 ⟨fun v hv=>(h.v v hv).2,fun j e _ yR=>(h.e e (ab6 yR)).2⟩;cases this⟩
    |true =>
     refine⟨0,c rfl,fun _=>⟨fun v hv=>⟨(zN.1 rfl).1 v hv,(mI.1 rfl).1 v hv⟩,fun e he=>?_⟩,fun _=>rfl⟩;obtain⟨j,hj⟩:=adh.1 he;have hji:j<i:=by have:=(aa2.1 hj).1;omega
     exact⟨(zN.1 rfl).2 j e hji hj,(mI.1 rfl).2 j e hji hj⟩
  |succ m ih =>
   intro i lb ab hi zN mI;have aG:i<d.2.length:=by omega
   have hx:d.2[i]? = some d.2[i]:=aa4 aG;have f28:=abV (hG 91 zR rfl) d.2[i].2.1 (te _ (acm aG));have f29:=abW (hG 90 B2 rfl) d.2[i].2.2;obtain⟨r,q1,q2⟩:=ih (i+1) (lb&&lY d.2[i].2.1) (ab&&jZ d.2[i].2.2) (by omega) ⟨fun h=>by
     simp only[Bool.and_eq_true]at h;exact⟨(zN.1 h.1).1,fun j e hj yR=>by
      by_cases k:j=i
      ·subst k;rw[hx]at yR;cases yR;exact h.2
      ·exact(zN.1 h.1).2 j e (by omega) yR⟩,fun h=>dp (zN.2 ⟨h.1,fun j e hj=>h.2 j e (by omega)⟩) (h.2 i _ (by omega) hx)⟩
    ⟨fun h=>by
     simp only[Bool.and_eq_true]at h;exact⟨(mI.1 h.1).1,fun j e hj yR=>by
      by_cases k:j=i
      ·subst k;rw[hx]at yR;cases yR;exact h.2
      ·exact(mI.1 h.1).2 j e (by omega) yR⟩,fun h=>dp (mI.2 ⟨h.1,fun j e hj=>h.2 j e (by omega)⟩) (h.2 i _ (by omega) hx)⟩
   refine⟨r,aw U4 (af (ba aG) ?_),q2⟩;rw[wI,aI aG (by omega)]
   cases lb<;>cases ab
   ·exact q1
   ·exact ag rfl (af rfl (aa (aC hx) (aa f29 q1)))
   ·exact af rfl (aa (aC hx) (aa f28 (ag rfl q1)))
   ·exact af rfl (aa (aC hx) (aa f28 (af rfl (aa (aC hx) (aa f29 q1)))))
 have Xa:∀(m i:Nat) (lb ab:Bool),i+m=d.1.length→(lb=true↔∀j v,j<i→d.1[j]? = some v→lY v.2.2.1=true)→(ab=true↔∀j v,j<i→d.1[j]? = some v→jZ v.2.2.2=true) → ∃r:Int,LX G 106 sB Tryz.f106 rE (aS Tryz.prog 106 0) ((((d.1.length:Nat):Int),(lb,(ab,((i:Int),())))),(((d,()),()),()))=some ((r,()),())∧(r=0↔Qo d):=by
  intro m
  induction m with
  |zero =>intro i lb ab hi zN mI;obtain⟨r,q1,q2⟩:=W9 d.2.length 0 lb ab (by omega) ⟨fun h=>⟨fun v hv=>by obtain⟨j,hj⟩:=adh.1 hv;exact zN.1 h j v (by have:=(aa2.1 hj).1;omega) hj,fun j e hj=>by omega⟩,fun h=>zN.2 fun j v _ XV=>h.1 v (ab6 XV)⟩ ⟨fun h=>⟨fun v hv=>by obtain⟨j,hj⟩:=adh.1 hv;exact mI.1 h j v (by have:=(aa2.1 hj).1;omega) hj,fun j e hj=>by omega⟩,fun h=>mI.2 fun j v _ XV=>h.1 v (ab6 XV)⟩;exact⟨r,aw U3 (ag (decide_eq_false (show ¬((i:Int)<((d.1.length:Nat):Int)) by omega)) q1),q2⟩
  |succ m ih =>
   intro i lb ab hi zN mI;have aG:i<d.1.length:=by omega
   have hx:d.1[i]? = some d.1[i]:=aa4 aG;have f28:=abV (hG 91 zR rfl) d.1[i].2.2.1 (tv _ (acm aG));have f29:=abW (hG 90 B2 rfl) d.1[i].2.2.2;obtain⟨r,q1,q2⟩:=ih (i+1) (lb&&lY d.1[i].2.2.1) (ab&&jZ d.1[i].2.2.2) (by omega) ⟨fun h=>by
     simp only[Bool.and_eq_true]at h;exact fun j e hj yR=>by
      by_cases k:j=i
      ·subst k;rw[hx]at yR;cases yR;exact h.2
      ·exact zN.1 h.1 j e (by omega) yR,fun h=>dp (zN.2 fun j e hj=>h j e (by omega)) (h i _ (by omega) hx)⟩
    ⟨fun h=>by
     simp only[Bool.and_eq_true]at h;exact fun j e hj yR=>by
      by_cases k:j=i
      ·subst k;rw[hx]at yR;cases yR;exact h.2
      ·exact mI.1 h.1 j e (by omega) yR,fun h=>dp (mI.2 fun j e hj=>h j e (by omega)) (h i _ (by omega) hx)⟩
   refine⟨r,aw U3 (af (ba aG) ?_),q2⟩;rw[wI,aI aG (by omega)]
   cases lb<;>cases ab
   ·exact q1
   ·exact ag rfl (af rfl (aa (aC hx) (aa f29 q1)))
   ·exact af rfl (aa (aC hx) (aa f28 (ag rfl q1)))
   ·exact af rfl (aa (aC hx) (aa f28 (af rfl (aa (aC hx) (aa f29 q1)))))
 obtain⟨r,q1,q2⟩:=Xa d.1.length 0 true true (by omega) ⟨fun _ j v hj=>by omega,fun _=>rfl⟩ ⟨fun _ j v hj=>by omega,fun _=>rfl⟩;refine⟨r,pre (ag rfl (ag rfl (aa k3 (ag rfl q1)))),fun h=>?_,fun h=>q2.2 (acO h)⟩;exact Zy (by omega) (by omega) (p1.1 rfl).1 (p1.1 rfl).2 (p2.1 rfl).1 (p2.1 rfl).2 (p3.1 rfl) (q2.1 h)
theorem anl(hG:HG G)(d:ak)(hs:Sm d)(tv:∀v∈d.1,v.2.2.1.size≤100000000)(te:∀e∈d.2,e.2.1.size≤100000000):∃r:Int,FX G 72 IN ((d,()),())=some ((r,()),())∧(r=0↔Wf d∧bK d=0):=by
 obtain⟨r,k1,k2⟩:=ank hG d hs tv te;have e0:=@ajY (FX G) (LX G 72 IN Tryz.f72) ((d,()),());have fin:∀{y},cp 72 IN Tryz.f72 (FX G) (LX G 72 IN Tryz.f72) ((d,()),())=some y→FX G 72 IN ((d,()),())=some y:=fun {y} h=>aB (hG _ _ rfl) h rfl;by_cases hr:r=0
 ·have hw:=k2.1 hr;have bq:=hw.ne;by_cases hg:bK d=0
  ·exact⟨0,fin (e0.trans (aa k1 (ag (by simp[hr]) (aa (abU hG d hs (by omega)) (ag (by simp[hg]) rfl))))),fun _=>⟨hw,hg⟩,fun _=>rfl⟩
  ·exact⟨11,fin (e0.trans (aa k1 (ag (by simp[hr]) (aa (abU hG d hs (by omega)) (af (by simp[hg]) rfl))))),fun h=>(by cases h),fun h=>absurd h.2 hg⟩
 ·exact⟨r,fin (e0.trans (aa k1 (af (by simp[hr]) rfl))),fun h=>absurd h hr,fun h=>k2.2 h.1⟩
end Go.Vs
