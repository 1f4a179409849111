/- What the document says of a diagram that may be: it is well formed. -/
import Derived.Test.YtpkfpbpbkabkdaaGreatFormed
set_option linter.unusedVariables false
set_option linter.unusedSimpArgs false
namespace Go.Vs
open Go.Proofs
variable {G:(f:FuncId)→(g:aN)→Option (g.A→Option g.B)}
theorem Tb{α:Type}{R:α→α→Prop}(tr:∀a b c,R a b→R b c→R a c){l:List α}(h:∀j x y,l[j]? = some x→l[j+1]? = some y→R x y):l.Pairwise R:=by
 rw[List.pairwise_iff_getElem]
 have key:∀(n i:Nat) (hi:i<l.length) (hj:i+n+1<l.length),R l[i] l[i+n+1]:=by
  intro n
  induction n with
  |zero=>intro i hi hj;exact h i _ _ (List.getElem?_eq_getElem hi) (List.getElem?_eq_getElem hj)
  |succ n ih =>
   intro i hi hj
   exact tr _ _ _ (ih i hi (by omega)) (h (i+n+1) _ _ (List.getElem?_eq_getElem (by omega)) (List.getElem?_eq_getElem hj))
 intro i j hi hj zq
 have:=key (j-i-1) i hi (by omega)
 have e:i+(j-i-1)+1=j:=by omega
 simpa only[e] using this
theorem MD{i n:Nat}(h0:0<i)(h:i<n)(hn:n≤1073741824):IntKind.wrap .i64 ((i:Int)-1)=((i-1:Nat):Int):=by
 rw[wrap_small (by omega) (by omega)];omega
theorem aiJ(hG:HG G)(d:aj)(hv:d.1.length≤50000000)(he:d.2.length≤50000000):FX G 133 zg ((d,()),())=some ((d.1.map (·.1)++d.2.map (·.1),()),()):=by
 refine aw (fn:=Tryz.f133) (hG _ _ rfl) (by kernel_rfl) (by kernel_rfl) ((af6 _ _ _).trans ?_)
 have XU:∀(a:List ID),a.length≤50000000→LX G 133 zg Tryz.f133 wZ (aM Tryz.prog 133 1) (((0:Int),()),(((d,()),()),(a,())))=some ((a++d.2.map (·.1),()),()):=by
  intro a ha
  have key:=b7 d.2 (fun i (s:List ID)=>LX G 133 zg Tryz.f133 wZ (aM Tryz.prog 133 1) ((i,()),(((d,()),()),(s,())))) (fun r s=>((s++r.map (·.1),()),())) (fun m s=>s.length+m≤100000000)
   (fun s _=>by
    refine ao (j:=1) (by kernel_rfl) ((QZ _ _ _).trans (ag (dL _) ?_))
    simp only[List.map_nil,List.append_nil];rfl)
   (fun i x r s hi hx zj hk ih=>by
    refine ao (j:=1) (by kernel_rfl) ((QZ _ _ _).trans ?_)
    refine af (aX hi) (aa (ax hx) (af (fits (by simp;omega)) ?_))
    rw[wI,aE hi (by omega)]
    have:=ih (s++[x.1]) (by simp;omega)
    rw[show(x.1::([]:List ID))=[x.1] from rfl]
    refine this.trans ?_
    simp)
   a (by omega)
  exact key
 have key:=b7 d.1 (fun i (s:List ID)=>LX G 133 zg Tryz.f133 BP (aM Tryz.prog 133 0) ((i,()),(((d,()),()),(s,())))) (fun r s=>(((s++r.map (·.1))++d.2.map (·.1),()),())) (fun m s=>s.length+m≤50000000)
  (fun s hs=>by
   refine ao (j:=0) (by kernel_rfl) ((QY _ _ _).trans (ag (dL _) ?_))
   refine(XU s (by omega)).trans ?_
   simp only[List.map_nil,List.append_nil];rfl)
  (fun i x r s hi hx zj hk ih=>by
   refine ao (j:=0) (by kernel_rfl) ((QY _ _ _).trans ?_)
   refine af (aX hi) (aa (ax hx) (af (fits (by simp;omega)) ?_))
   rw[wI,aE hi (by omega)]
   have:=ih (s++[x.1]) (by simp;omega)
   rw[show(x.1::([]:List ID))=[x.1] from rfl]
   refine this.trans ?_
   simp)
  [] (by simpa using hv)
 exact key
theorem adk(hG:HG G)(l:List ID)(hl:l.length≤1073741824):∃b,FX G 134 vf ((l,()),())=some ((b,()),())∧(b=true↔(l.Pairwise fun a b=>fb a b=true)∧∀x∈l,b4 x=true):=by
 have loop:∀(n i:Nat),i+n=l.length→(∀j x,j<i→l[j]? = some x→b4 x=true)→(∀j x y,j+1<i→l[j]? = some x→l[j+1]? = some y→fb x y=true) →
   ∃b,LX G 134 vf Tryz.f134 w4 (aM Tryz.prog 134 0) ((l,((i:Int),())),((),()))=some ((b,()),())∧(b=true↔(l.Pairwise fun a b=>fb a b=true)∧∀x∈l,b4 x=true):=by
  intro n
  induction n with
  |zero =>
   intro i hi hm ha
   refine⟨true,ao (j:=0) (by kernel_rfl) ((Ra _ _ _).trans (ag (decide_eq_false (show ¬((i:Int)<((l.length:Nat):Int)) by omega)) rfl)),fun _=>⟨?_,fun x hx=>?_⟩,fun _=>rfl⟩
   ·refine Tb (R:=fun a b:ID=>fb a b=true) (fun a b c=>gM) fun j x y h1 h2=>ha j x y ?_ h1 h2
    have:=(List.getElem?_eq_some_iff.1 h2).1;omega
   ·obtain⟨j,hj⟩:=List.mem_iff_getElem?.1 hx
    exact hm j x (by have:=(List.getElem?_eq_some_iff.1 hj).1;omega) hj
  |succ n ih =>
   intro i hi hm ha
   have aF:i<l.length:=by omega
   have hx:l[i]? = some l[i]:=List.getElem?_eq_getElem aF
   have e1:=Ra (FX G) (LX G 134 vf Tryz.f134) ((l,((i:Int),())),((),()))
   cases YN:b4 l[i] with
   |false=>exact⟨false,ao (j:=0) (by kernel_rfl) (e1.trans (af (aX aF) (aa (ax hx) (aa (Dh (hG _ _ rfl) _) (aQ YN rfl))))),fun h=>(by cases h),fun h=>by rw[h.2 _ (List.getElem_mem aF)]at YN;cases YN⟩
   |true =>
    have TF:∀j x,j<i+1→l[j]? = some x→b4 x=true:=fun j x hj k=>by
     by_cases e:j=i
     ·subst e;rw[hx]at k;cases k;exact YN
     ·exact hm j x (by omega) k
    by_cases h0:i=0
    ·obtain⟨b,h1,h2⟩:=ih (i+1) (by omega) TF (fun j x y hj=>by omega)
     refine⟨b,ao (j:=0) (by kernel_rfl) (e1.trans (af (aX aF) (aa (ax hx) (aa (Dh (hG _ _ rfl) _) (aQ YN (ag rfl (ag (decide_eq_false (show ¬((i:Int)>0) by omega)) ?_))))))),h2⟩
     rw[wI,aE aF hl];exact h1
    ·have hy:l[i-1]? = some l[i-1]:=List.getElem?_eq_getElem (by omega)
     have e2:aY l (IntKind.wrap .i64 ((i:Int)-1))=some l[i-1]:=by rw[MD (by omega) aF hl];exact ax hy
     by_cases hc:fb l[i-1] l[i]=true
     ·obtain⟨b,h1,h2⟩:=ih (i+1) (by omega) TF (fun j x y hj k1 k2=>by
       by_cases YO:j+1=i
       ·have ej:j=i-1:=by omega
        subst ej
        rw[hy]at k1;rw[show i-1+1=i by omega,hx]at k2
        cases k1;cases k2;exact hc
       ·exact ha j x y (by omega) k1 k2)
      refine⟨b,ao (j:=0) (by kernel_rfl) (e1.trans (af (aX aF) (aa (ax hx) (aa (Dh (hG _ _ rfl) _) (aQ YN (ag rfl (af (decide_eq_true (show((i:Int)>0) by omega)) (aa e2 (aa (ax hx) (aa (RI (hG _ _ rfl) _ _) (ag (decide_eq_false ?_) ?_))))))))))),h2⟩
      ·have:=(kb l[i-1] l[i]).2 hc
       show ¬(pS l[i-1] l[i]≥0)
       omega
      ·rw[wI,aE aF hl];exact h1
     ·refine⟨false,ao (j:=0) (by kernel_rfl) (e1.trans (af (aX aF) (aa (ax hx) (aa (Dh (hG _ _ rfl) _) (aQ YN (ag rfl (af (decide_eq_true (show((i:Int)>0) by omega)) (aa e2 (aa (ax hx) (aa (RI (hG _ _ rfl) _ _) (af (decide_eq_true ?_) rfl))))))))))),fun h=>(by cases h),fun h=>absurd (List.pairwise_iff_getElem.1 h.1 (i-1) i (by omega) aF (by omega)) hc⟩
      have:=mt (kb l[i-1] l[i]).1 hc
      show pS l[i-1] l[i]≥0
      omega
 obtain⟨b,h1,h2⟩:=loop l.length 0 (by omega) (fun j x hj=>by omega) (fun j x y hj=>by omega)
 exact⟨b,aw (fn:=Tryz.f134) (hG _ _ rfl) (by kernel_rfl) (by kernel_rfl) ((af7 _ _ _).trans h1),h2⟩
end Go.Vs
namespace Go.Vs
open Go.Proofs
variable {G:(f:FuncId)→(g:aN)→Option (g.A→Option g.B)}
theorem adl(hG:HG G)(d:aj)(x:ae)(hs:Sm d)(hn:d.1.length≤24):FX G 163 ou ((d,x,()),())=some (((((au d.1).count x:Nat):Int),()),()):=by
 refine aw (fn:=Tryz.f163) (hG _ _ rfl) (by kernel_rfl) (by kernel_rfl) ((aap _ _ _).trans ?_)
 have inner:∀(v:ah) (i:Nat) (hv:d.1[i]? = some v) (m k acc:Nat) y,k+m=v.2.1.length→acc+m≤100000000000 →
   LX G 163 ou Tryz.f163 si (aM Tryz.prog 163 0) ((((acc+(v.2.1.drop k).count x:Nat):Int),(((i+1:Nat):Int),())),(((d,()),((x,()),())),()))=some y →
   LX G 163 ou Tryz.f163 pN (aM Tryz.prog 163 1) (((acc:Int),((i:Int),((k:Int),()))),(((d,()),((x,()),())),()))=some y:=by
  intro v i hv m
  have OX:v.2.1.length≤50000000:=hs.r v (List.mem_of_getElem? hv)
  have hi:i<d.1.length:=(List.getElem?_eq_some_iff.1 hv).1
  induction m with
  |zero =>
   intro k acc y hk ha hy
   refine ao (j:=1) (by kernel_rfl) ((LB _ _ _).trans ?_)
   refine aa (ax hv) (ag (decide_eq_false (show ¬((k:Int)<((v.2.1.length:Nat):Int)) by omega)) ?_)
   rw[List.drop_eq_nil_of_le (by omega)]at hy
   rw[wI,aE hi (by omega)]
   exact hy
  |succ m ih =>
   intro k acc y hk ha hy
   have aF:k<v.2.1.length:=by omega
   have hx:v.2.1[k]? = some v.2.1[k]:=List.getElem?_eq_getElem aF
   refine ao (j:=1) (by kernel_rfl) ((LB _ _ _).trans ?_)
   refine aa (ax hv) (af (aX aF) (aa (ax hv) (aa (ax hx) ?_)))
   have hb:=kA v.2.1[k] x
   rw[List.drop_eq_getElem_cons aF,List.count_cons]at hy
   by_cases hc:v.2.1[k]=x
   ·refine af (hb.trans (decide_eq_true hc)) ?_
    have w1:IntKind.wrap .i64 ((acc:Int)+1)=((acc+1:Nat):Int):=by rw[wrap_small (by omega) (by omega)];omega
    show LX G 163 ou Tryz.f163 pN (aM Tryz.prog 163 1) ((IntKind.wrap .i64 ((acc:Int)+1),((i:Int),(IntKind.wrap .i64 ((k:Int)+1),()))),(((d,()),((x,()),())),()))=some y
    rw[w1,aE aF (by omega)]
    refine ih (k+1) (acc+1) y (by omega) (by omega) ?_
    rw[if_pos (by simpa using hc),show acc+(List.count x (v.2.1.drop (k+1))+1)=acc+1+List.count x (v.2.1.drop (k+1)) by omega]at hy
    exact hy
   ·refine ag (hb.trans (decide_eq_false hc)) ?_
    rw[wI,aE aF (by omega)]
    refine ih (k+1) acc y (by omega) (by omega) ?_
    rw[if_neg (by simpa using hc)]at hy
    exact hy
 have outer:∀(m i acc:Nat),i+m=d.1.length→acc≤i*50000000→LX G 163 ou Tryz.f163 si (aM Tryz.prog 163 0) (((acc:Int),((i:Int),())),(((d,()),((x,()),())),()))=some ((((acc+(au (d.1.drop i)).count x:Nat):Int),()),()):=by
  intro m
  induction m with
  |zero =>
   intro i acc hi ha
   refine ao (j:=0) (by kernel_rfl) ((LA _ _ _).trans (ag (decide_eq_false (show ¬((i:Int)<((d.1.length:Nat):Int)) by omega)) ?_))
   rw[List.drop_eq_nil_of_le (by omega)];rfl
  |succ m ih =>
   intro i acc hi ha
   have aF:i<d.1.length:=by omega
   have hx:d.1[i]? = some d.1[i]:=List.getElem?_eq_getElem aF
   have OX:d.1[i].2.1.length≤50000000:=hs.r _ (List.getElem_mem aF)
   refine ao (j:=0) (by kernel_rfl) ((LA _ _ _).trans (af (aX aF) ?_))
   have tG:List.count x d.1[i].2.1≤d.1[i].2.1.length:=List.count_le_length
   refine inner d.1[i] i hx d.1[i].2.1.length 0 acc _ (by omega) (by omega) ?_
   rw[List.drop_zero]
   have:=ih (i+1) (acc+List.count x d.1[i].2.1) (by omega) (by omega)
   refine this.trans ?_
   rw[List.drop_eq_getElem_cons aF,iF,List.count_append,Nat.add_assoc];rfl
 have:=outer d.1.length 0 0 (by omega) (by omega)
 rw[List.drop_zero,Nat.zero_add]at this
 exact this
structure v5(d:aj):Prop where
 t:∀v∈d.1,cw v.2.1=v.2.1
 e:∀v∈d.1,∀x∈v.2.1,(aT d.2 x.1).isSome=true∧0≤x.2∧x.2≤1
 c:∀e∈d.2,∀s:Int,s=0∨s=1→(au d.1).count (e.1,s)=1
theorem aiK(hG:HG G)(d:aj)(hs:Sm d)(hn:d.1.length≤24):∃b,FX G 135 k9 ((d,()),())=some ((b,()),())∧(b=true↔v5 d):=by
 have wy:=hs.e
 have Td:∀(m i:Nat),i+m=d.2.length→(∀v∈d.1,cw v.2.1=v.2.1)→(∀v∈d.1,∀x∈v.2.1,(aT d.2 x.1).isSome=true∧0≤x.2∧x.2≤1)→(∀j e,j<i→d.2[j]? = some e→∀s:Int,s=0∨s=1→(au d.1).count (e.1,s)=1) →
   ∃b,LX G 135 k9 Tryz.f135 w6 (aM Tryz.prog 135 2) (((i:Int),()),(((d,()),()),()))=some ((b,()),())∧(b=true↔v5 d):=by
  intro m
  induction m with
  |zero =>
   intro i hi h1 h2 h3
   refine⟨true,ao (j:=2) (by kernel_rfl) ((Rd _ _ _).trans (ag (decide_eq_false (show ¬((i:Int)<((d.2.length:Nat):Int)) by omega)) rfl)),fun _=>⟨h1,h2,fun e he s hs=>?_⟩,fun _=>rfl⟩
   obtain⟨j,hj⟩:=List.mem_iff_getElem?.1 he
   exact h3 j e (by have:=(List.getElem?_eq_some_iff.1 hj).1;omega) hj s hs
  |succ m ih =>
   intro i hi h1 h2 h3
   have aF:i<d.2.length:=by omega
   have hx:d.2[i]? = some d.2[i]:=List.getElem?_eq_getElem aF
   have key:∀(s:Nat),s≤1→∀y,((au d.1).count (d.2[i].1,(s:Int))=1→LX G 135 k9 Tryz.f135 ub (aM Tryz.prog 135 3) (((i:Int),(((s+1:Nat):Int),())),(((d,()),()),()))=some y)→((au d.1).count (d.2[i].1,(s:Int))≠1→y=((false,()),())) →
     LX G 135 k9 Tryz.f135 ub (aM Tryz.prog 135 3) (((i:Int),((s:Int),())),(((d,()),()),()))=some y:=by
    intro s Fa y k1 k2
    refine ao (j:=3) (by kernel_rfl) ((Re _ _ _).trans ?_)
    refine af (decide_eq_true (show((s:Int)<2) by omega)) (aa (ax hx) (aa (adl hG d (d.2[i].1,(s:Int)) hs hn) ?_))
    by_cases hc:(au d.1).count (d.2[i].1,(s:Int))=1
    ·refine ag (show((((au d.1).count (d.2[i].1,(s:Int)):Nat):Int) != 1)=false by rw[hc];rfl) ?_
     have w1:IntKind.wrap .i64 ((s:Int)+1)=((s+1:Nat):Int):=by rw[wrap_small (by omega) (by omega)];omega
     rw[wI,w1];exact k1 hc
    ·rw[k2 hc]
     exact af (show((((au d.1).count (d.2[i].1,(s:Int)):Nat):Int) != 1)=true by rw[bne_iff_ne];omega) rfl
   have go:∀y,LX G 135 k9 Tryz.f135 ub (aM Tryz.prog 135 3) (((i:Int),((0:Int),())),(((d,()),()),()))=some y→LX G 135 k9 Tryz.f135 w6 (aM Tryz.prog 135 2) (((i:Int),()),(((d,()),()),()))=some y:=fun y hy =>
    ao (j:=2) (by kernel_rfl) ((Rd _ _ _).trans (af (aX aF) hy))
   by_cases c0:(au d.1).count (d.2[i].1,((0:Nat):Int))=1
   ·by_cases c1:(au d.1).count (d.2[i].1,((1:Nat):Int))=1
    ·obtain⟨b,k1,k2⟩:=ih (i+1) (by omega) h1 h2 (fun j e hj xL s hs=>by
      by_cases YO:j=i
      ·subst YO;rw[hx]at xL;cases xL
       rcases hs with rfl|rfl
       ·exact c0
       ·exact c1
      ·exact h3 j e (by omega) xL s hs)
     refine⟨b,go _ (key 0 (by omega) _ (fun _=>key 1 (by omega) _ (fun _=>?_) fun h=>absurd c1 h) fun h=>absurd c0 h),k2⟩
     refine ao (j:=3) (by kernel_rfl) ((Re _ _ _).trans (ag (decide_eq_false (show ¬((((1+1:Nat):Nat):Int)<2) by omega)) ?_))
     rw[wI,aE aF (by omega)]
     exact k1
    ·exact⟨false,go _ (key 0 (by omega) _ (fun _=>key 1 (by omega) _ (fun h=>absurd h c1) fun _=>rfl) fun h=>absurd c0 h),fun h=>(by cases h),fun h=>absurd (h.c _ (List.getElem_mem aF) 1 (.inr rfl)) c1⟩
   ·exact⟨false,go _ (key 0 (by omega) _ (fun h=>absurd h c0) fun _=>rfl),fun h=>(by cases h),fun h=>absurd (h.c _ (List.getElem_mem aF) 0 (.inl rfl)) c0⟩
 have ring:∀(v:ah) (i:Nat) (hv:d.1[i]? = some v) (y:Bool) (P:Prop),(P→LX G 135 k9 Tryz.f135 ua (aM Tryz.prog 135 0) ((((i+1:Nat):Int),()),(((d,()),()),()))=some ((y,()),()))→(¬P→y=false)→(P↔∀x∈v.2.1,(aT d.2 x.1).isSome=true∧0≤x.2∧x.2≤1) →
   ∀(m k:Nat),k+m=v.2.1.length→(∀j x,j<k→v.2.1[j]? = some x→(aT d.2 x.1).isSome=true∧0≤x.2∧x.2≤1) →
   LX G 135 k9 Tryz.f135 w5 (aM Tryz.prog 135 1) (((i:Int),(v.2.1,((k:Int),()))),(((d,()),()),()))=some ((y,()),()):=by
  intro v i hv y P hP hnP hPi m
  have hi:i<d.1.length:=(List.getElem?_eq_some_iff.1 hv).1
  have OX:v.2.1.length≤50000000:=hs.r v (List.mem_of_getElem? hv)
  induction m with
  |zero =>
   intro k hk hj
   have p:P:=hPi.2 fun x hx=>by
    obtain⟨j,Zl⟩:=List.mem_iff_getElem?.1 hx
    exact hj j x (by have:=(List.getElem?_eq_some_iff.1 Zl).1;omega) Zl
   refine ao (j:=1) (by kernel_rfl) ((Rc _ _ _).trans (ag (decide_eq_false (show ¬((k:Int)<((v.2.1.length:Nat):Int)) by omega)) ?_))
   rw[wI,aE hi (by omega)]
   exact hP p
  |succ m ih =>
   intro k hk hj
   have aF:k<v.2.1.length:=by omega
   have hx:v.2.1[k]? = some v.2.1[k]:=List.getElem?_eq_getElem aF
   have gR:v.2.1[k]∈v.2.1:=List.getElem_mem aF
   refine ao (j:=1) (by kernel_rfl) ((Rc _ _ _).trans (af (aX aF) (aa (ax hx) (aa (RL (hG _ _ rfl) d v.2.1[k].1 (by omega)) ?_))))
   have hE:(je zE (cJ d v.2.1[k].1)).2.1=(aT d.2 v.2.1[k].1).isSome:=gL _ _
   cases zF:(aT d.2 v.2.1[k].1).isSome
   case false =>
    rw[hnP fun p=>by have:=(hPi.1 p _ gR).1;rw[zF]at this;cases this]
    exact aQ (hE.trans zF) rfl
   refine aQ (hE.trans zF) (ag rfl (aa (ax hx) ?_))
   by_cases h0:v.2.1[k].2<0
   ·rw[hnP fun p=>by have:=(hPi.1 p _ gR).2.1;omega]
    exact af (decide_eq_true h0) rfl
   refine ag (decide_eq_false h0) (aa (ax hx) ?_)
   by_cases h1:v.2.1[k].2>1
   ·rw[hnP fun p=>by have:=(hPi.1 p _ gR).2.2;omega]
    exact af (decide_eq_true h1) rfl
   refine ag (decide_eq_false h1) ?_
   rw[wI,aE aF (by omega)]
   refine ih (k+1) (by omega) fun j x hjk Zl=>?_
   by_cases xL:j=k
   ·subst xL;rw[hx]at Zl;cases Zl;exact⟨zF,by omega,by omega⟩
   ·exact hj j x (by omega) Zl
 have Te:∀(m i:Nat),i+m=d.1.length→(∀j v,j<i→d.1[j]? = some v→cw v.2.1=v.2.1∧∀x∈v.2.1,(aT d.2 x.1).isSome=true∧0≤x.2∧x.2≤1) →
   ∃b,LX G 135 k9 Tryz.f135 ua (aM Tryz.prog 135 0) (((i:Int),()),(((d,()),()),()))=some ((b,()),())∧(b=true↔v5 d):=by
  intro m
  induction m with
  |zero =>
   intro i hi hj
   have eW:∀v∈d.1,cw v.2.1=v.2.1∧∀x∈v.2.1,(aT d.2 x.1).isSome=true∧0≤x.2∧x.2≤1:=fun v hv=>by
    obtain⟨j,TR⟩:=List.mem_iff_getElem?.1 hv
    exact hj j v (by have:=(List.getElem?_eq_some_iff.1 TR).1;omega) TR
   obtain⟨b,k1,k2⟩:=Td d.2.length 0 (by omega) (fun v hv=>(eW v hv).1) (fun v hv=>(eW v hv).2) (fun j e hj=>by omega)
   exact⟨b,ao (j:=0) (by kernel_rfl) ((Rb _ _ _).trans (ag (decide_eq_false (show ¬((i:Int)<((d.1.length:Nat):Int)) by omega)) k1)),k2⟩
  |succ m ih =>
   intro i hi hj
   have aF:i<d.1.length:=by omega
   have hx:d.1[i]? = some d.1[i]:=List.getElem?_eq_getElem aF
   have OX:d.1[i].2.1.length≤50000000:=hs.r _ (List.getElem_mem aF)
   have start:∀y,cond (not (decide (d.1[i].2.1=cw d.1[i].2.1))) (some ((false,()),())) (LX G 135 k9 Tryz.f135 w5 (aM Tryz.prog 135 1) (((i:Int),(d.1[i].2.1,((0:Int),()))),(((d,()),()),())))=some y →
     LX G 135 k9 Tryz.f135 ua (aM Tryz.prog 135 0) (((i:Int),()),(((d,()),()),()))=some y:=fun y hy =>
    ao (j:=0) (by kernel_rfl) ((Rb _ _ _).trans (af (aX aF) (aa (ax hx) (aa (FI hG d.1[i].2.1 (by omega)) (aa (agK hG d.1[i].2.1 (cw d.1[i].2.1) (by omega)) hy)))))
   by_cases ht:d.1[i].2.1=cw d.1[i].2.1
   ·by_cases hp:∀x∈d.1[i].2.1,(aT d.2 x.1).isSome=true∧0≤x.2∧x.2≤1
    ·obtain⟨b,k1,k2⟩:=ih (i+1) (by omega) (fun j v YO TR=>by
      by_cases xL:j=i
      ·subst xL;rw[hx]at TR;cases TR;exact⟨ht.symm,hp⟩
      ·exact hj j v (by omega) TR)
     exact⟨b,start _ (aQ (decide_eq_true ht) (ag rfl (ring d.1[i] i hx b _ (fun _=>k1) (fun h=>absurd hp h) Iff.rfl d.1[i].2.1.length 0 (by omega) fun j x hj=>by omega))),k2⟩
    ·exact⟨false,start _ (aQ (decide_eq_true ht) (ag rfl (ring d.1[i] i hx false _ (fun h=>absurd h hp) (fun _=>rfl) Iff.rfl d.1[i].2.1.length 0 (by omega) fun j x hj=>by omega))),fun h=>(by cases h),fun h=>absurd (h.e _ (List.getElem_mem aF)) hp⟩
   ·exact⟨false,start _ (aQ (decide_eq_false ht) rfl),fun h=>(by cases h),fun h=>absurd (h.t _ (List.getElem_mem aF)).symm ht⟩
 obtain⟨b,k1,k2⟩:=Te d.1.length 0 (by omega) (fun j v hj=>by omega)
 exact⟨b,aw (fn:=Tryz.f135) (hG _ _ rfl) (by kernel_rfl) (by kernel_rfl) ((af8 _ _ _).trans k1),k2⟩
end Go.Vs
namespace Go.Vs
open Go.Proofs
variable {G:(f:FuncId)→(g:aN)→Option (g.A→Option g.B)}
theorem adm{α:Type}(a b:List α):cut (a++b) 0 ((a.length:Nat):Int)=a:=by
 unfold cut
 rw[Int.toNat_natCast,List.take_left];rfl
theorem adn{α:Type}(a b:List α):cut (a++b) ((a.length:Nat):Int) (((a++b).length:Nat):Int)=b:=by
 unfold cut
 rw[Int.toNat_natCast,Int.toNat_natCast,List.take_length,List.drop_left]
theorem xM{x:ae}:∀{l:List ae},l.Nodup→x∈l→l.count x=1
 |a::r,hn,hm=>by
  obtain⟨h1,h2⟩:=List.nodup_cons.1 hn
  rw[List.count_cons]
  by_cases e:a=x
  ·subst e;rw[List.count_eq_zero.2 h1];simp
  ·rw[if_neg (by simpa using e)]
   exact xM h2 ((List.mem_cons.1 hm).resolve_left fun k=>e k.symm)
structure ME(d:aj):Prop where
 v:∀v∈d.1,mG v.2.2.1=true∧kD v.2.2.2=true
 e:∀e∈d.2,mG e.2.1=true∧kD e.2.2=true
theorem Vy{d:aj}(nv:d.1.length≤24)(ne:d.2.length≤40)(hv:(d.1.map (·.1)).Pairwise fun a b=>fb a b=true)(mv:∀x∈d.1.map (·.1),b4 x=true)(he:(d.2.map (·.1)).Pairwise fun a b=>fb a b=true)(me:∀x∈d.2.map (·.1),b4 x=true)(hr:v5 d)(hl:ME d):Wf d:=by
 have sv:bY d.1:=List.pairwise_map.1 hv
 have se:dk d.2:=List.pairwise_map.1 he
 refine⟨sv,se,nv,ne,fun v h=>⟨mv _ (List.mem_map.2 ⟨v,h,rfl⟩),(hl.v v h).1,(hl.v v h).2,hr.t v h⟩,fun e h=>⟨me _ (List.mem_map.2 ⟨e,h,rfl⟩),(hl.e e h).1,(hl.e e h).2⟩,?_⟩
 rw[List.perm_iff_count]
 intro x
 by_cases hx:x∈ends d.2
 ·rw[xM (pY se) hx]
  obtain⟨e,h1,h2,h3⟩:=cQ.1 hx
  have:=hr.c e h1 x.2 h3
  rw[h2]at this
  exact this
 ·rw[List.count_eq_zero.2 hx,List.count_eq_zero]
  intro hd
  obtain⟨v,h1,h2⟩:=bh.1 hd
  obtain⟨k1,k2,k3⟩:=hr.e v h1 x h2
  obtain⟨e,hee⟩:=Option.isSome_iff_exists.1 k1
  exact hx (cQ.2 ⟨e,Ed hee,rz hee,by omega⟩)
theorem Tf{d:aj}(h:Wf d):v5 d:=by
 refine⟨fun v hv=>(h.gv v hv).t,fun v hv x hx=>?_,fun e he s hs=>?_⟩
 ·obtain⟨e,h1,h2,h3⟩:=cQ.1 (h.pd.mem_iff.1 (bh.2 ⟨v,hv,hx⟩))
  exact⟨by unfold aT;rw[List.find?_isSome];exact⟨e,h1,by simpa using h2⟩,by omega,by omega⟩
 ·rw[h.pd.count_eq]
  exact xM (pY h.se) (cQ.2 ⟨e,he,rfl,hs⟩)
theorem v7{d:aj}(h:Wf d):((d.1.map (·.1)).Pairwise fun a b=>fb a b=true)∧(∀x∈d.1.map (·.1),b4 x=true)∧((d.2.map (·.1)).Pairwise fun a b=>fb a b=true)∧∀x∈d.2.map (·.1),b4 x=true:=by
 refine⟨List.pairwise_map.2 h.sv,fun x hx=>?_,List.pairwise_map.2 h.se,fun x hx=>?_⟩
 ·obtain⟨v,hv,rfl⟩:=List.mem_map.1 hx;exact(h.gv v hv).i
 ·obtain⟨v,hv,rfl⟩:=List.mem_map.1 hx;exact(h.ge v hv).i
theorem YP{d:aj}(h:Wf d):ME d:=⟨fun v hv=>⟨(h.gv v hv).l,(h.gv v hv).a⟩,fun v hv=>⟨(h.ge v hv).l,(h.ge v hv).a⟩⟩
theorem aiM(hG:HG G)(d:aj)(hs:Sm d)(tv:∀v∈d.1,v.2.2.1.size≤100000000)(te:∀e∈d.2,e.2.1.size≤100000000):∃r:Int,FX G 106 qt ((d,()),())=some ((r,()),())∧(r=0↔Wf d):=by
 have e0:=afM (FX G) (LX G 106 qt Tryz.f106) ((d,()),())
 have fin:∀{y},bU 106 qt Tryz.f106 (FX G) (LX G 106 qt Tryz.f106) ((d,()),())=some y→FX G 106 qt ((d,()),())=some y:=fun {y} h=>aw (fn:=Tryz.f106) (hG _ _ rfl) (by kernel_rfl) (by kernel_rfl) h
 by_cases hn:24<d.1.length
 ·exact⟨3,fin (e0.trans (af (decide_eq_true (show((d.1.length:Nat):Int)>24 by omega)) rfl)),fun h=>(by cases h),fun h=>by have:=h.nv;omega⟩
 by_cases hm:40<d.2.length
 ·exact⟨3,fin (e0.trans (ag (decide_eq_false (show ¬((d.1.length:Nat):Int)>24 by omega)) (af (decide_eq_true (show((d.2.length:Nat):Int)>40 by omega)) rfl))),fun h=>(by cases h),fun h=>by have:=h.ne;omega⟩
 obtain⟨ids,nr⟩:∃ids,ids=d.1.map (·.1)++d.2.map (·.1):=⟨_,rfl⟩
 have l1:(d.1.map (·.1)).length=d.1.length:=List.length_map _
 have l2:(d.2.map (·.1)).length=d.2.length:=List.length_map _
 have nE:ids.length=d.1.length+d.2.length:=by rw[nr,List.length_append,l1,l2]
 have c1:cut ids 0 ((d.1.length:Nat):Int)=d.1.map (·.1):=by rw[nr,←l1];exact adm _ _
 have c2:cut ids ((d.1.length:Nat):Int) ((ids.length:Nat):Int)=d.2.map (·.1):=by rw[nr,←l1];exact adn _ _
 obtain⟨b1,k1,p1⟩:=adk hG (d.1.map (·.1)) (by rw[l1];omega)
 obtain⟨b2,k2,p2⟩:=adk hG (d.2.map (·.1)) (by rw[l2];omega)
 have o1:bj ids.length 0 ((d.1.length:Nat):Int)=true:=by
  unfold bj;rw[nE];simp only[Bool.and_eq_true,decide_eq_true_eq];omega
 have o2:bj ids.length ((d.1.length:Nat):Int) ((ids.length:Nat):Int)=true:=by
  unfold bj;rw[nE];simp only[Bool.and_eq_true,decide_eq_true_eq];omega
 have kc1:FX G 134 vf ((cut ids 0 ((d.1.length:Nat):Int),()),())=some ((b1,()),()):=(congrArg (fun q:List ID=>FX G 134 vf ((q,()),())) c1).trans k1
 have kc2:FX G 134 vf ((cut ids ((d.1.length:Nat):Int) ((ids.length:Nat):Int),()),())=some ((b2,()),()):=(congrArg (fun q:List ID=>FX G 134 vf ((q,()),())) c2).trans k2
 have h82:=aiJ hG d hs.v hs.e
 rw[←nr]at h82
 have pre:∀{y},cond (not b1) (some (((10:Int),()),())) (cond (not b2) (some (((10:Int),()),())) ((FX G 135 k9 ((d,()),())).bind fun(y4:((Bool×Unit)×Unit))=>cond (not y4.1.1) (some (((10:Int),()),())) (LX G 106 qt Tryz.f106 pP (aM Tryz.prog 106 0) ((((d.1.length:Nat):Int),(true,(true,((0:Int),())))),(((d,()),()),())))))=some y →
   FX G 106 qt ((d,()),())=some y:=fun {y} h=>by
  refine fin (e0.trans ?_)
  refine ag (decide_eq_false (show ¬((d.1.length:Nat):Int)>24 by omega)) (ag (decide_eq_false (show ¬((d.2.length:Nat):Int)>40 by omega)) ?_)
  refine aa h82 (af o1 ?_)
  refine aa kc1 (af o2 ?_)
  exact aa kc2 h
 cases NG:b1 with
 |false=>subst NG;exact⟨10,pre rfl,fun h=>(by cases h),fun h=>by have:=p1.2 ⟨(v7 h).1,(v7 h).2.1⟩;cases this⟩
 |true =>
 cases zr:b2 with
 |false=>subst NG;subst zr;exact⟨10,pre rfl,fun h=>(by cases h),fun h=>by have:=p2.2 ⟨(v7 h).2.2.1,(v7 h).2.2.2⟩;cases this⟩
 |true =>
 subst NG;subst zr
 obtain⟨b3,k3,p3⟩:=aiK hG d hs (by omega)
 cases Wm:b3 with
 |false=>subst Wm;exact⟨10,pre (ag rfl (ag rfl (aa k3 rfl))),fun h=>(by cases h),fun h=>by have:=p3.2 (Tf h);cases this⟩
 |true =>
 subst Wm
 have Td:∀(m i:Nat) (lb ab:Bool),i+m=d.2.length→(lb=true↔(∀v∈d.1,mG v.2.2.1=true)∧∀j e,j<i→d.2[j]? = some e→mG e.2.1=true)→(ab=true↔(∀v∈d.1,kD v.2.2.2=true)∧∀j e,j<i→d.2[j]? = some e→kD e.2.2=true) →
   ∃r:Int,LX G 106 qt Tryz.f106 pQ (aM Tryz.prog 106 1) ((lb,(ab,((i:Int),()))),(((d,()),()),()))=some ((r,()),())∧(r=0↔ME d):=by
  intro m
  induction m with
  |zero =>
   intro i lb ab hi KM nO
   have c:∀{y},cond (not lb) (some (((4:Int),()),())) (cond (not ab) (some (((1:Int),()),())) (some (((0:Int),()),())))=some y→LX G 106 qt Tryz.f106 pQ (aM Tryz.prog 106 1) ((lb,(ab,((i:Int),()))),(((d,()),()),()))=some y:=fun {y} h =>
    ao (j:=1) (by kernel_rfl) ((QT _ _ _).trans (ag (decide_eq_false (show ¬((i:Int)<((d.2.length:Nat):Int)) by omega)) h))
   cases lb with
   |false=>exact⟨4,c rfl,fun h=>(by cases h),fun h=>by have:=KM.2 ⟨fun v hv=>(h.v v hv).1,fun j e _ xL=>(h.e e (List.mem_of_getElem? xL)).1⟩;cases this⟩
   |true =>
    cases ab with
    |false=>exact⟨1,c rfl,fun h=>(by cases h),fun h=>by have:=nO.2 ⟨fun v hv=>(h.v v hv).2,fun j e _ xL=>(h.e e (List.mem_of_getElem? xL)).2⟩;cases this⟩
    |true =>
     refine⟨0,c rfl,fun _=>⟨fun v hv=>⟨(KM.1 rfl).1 v hv,(nO.1 rfl).1 v hv⟩,fun e he=>?_⟩,fun _=>rfl⟩
     obtain⟨j,hj⟩:=List.mem_iff_getElem?.1 he
     have YO:j<i:=by have:=(List.getElem?_eq_some_iff.1 hj).1;omega
     exact⟨(KM.1 rfl).2 j e YO hj,(nO.1 rfl).2 j e YO hj⟩
  |succ m ih =>
   intro i lb ab hi KM nO
   have aF:i<d.2.length:=by omega
   have hx:d.2[i]? = some d.2[i]:=List.getElem?_eq_getElem aF
   have f28:=XY (hG 91 wR rfl) d.2[i].2.1 (te _ (List.getElem_mem aF))
   have f29:=XZ (hG 90 yY rfl) d.2[i].2.2
   obtain⟨r,q1,q2⟩:=ih (i+1) (lb&&mG d.2[i].2.1) (ab&&kD d.2[i].2.2) (by omega)
    ⟨fun h=>by
     simp only[Bool.and_eq_true]at h
     exact⟨(KM.1 h.1).1,fun j e hj xL=>by
      by_cases k:j=i
      ·subst k;rw[hx]at xL;cases xL;exact h.2
      ·exact(KM.1 h.1).2 j e (by omega) xL⟩,fun h=>cY (KM.2 ⟨h.1,fun j e hj=>h.2 j e (by omega)⟩) (h.2 i _ (by omega) hx)⟩
    ⟨fun h=>by
     simp only[Bool.and_eq_true]at h
     exact⟨(nO.1 h.1).1,fun j e hj xL=>by
      by_cases k:j=i
      ·subst k;rw[hx]at xL;cases xL;exact h.2
      ·exact(nO.1 h.1).2 j e (by omega) xL⟩,fun h=>cY (nO.2 ⟨h.1,fun j e hj=>h.2 j e (by omega)⟩) (h.2 i _ (by omega) hx)⟩
   refine⟨r,ao (j:=1) (by kernel_rfl) ((QT _ _ _).trans (af (aX aF) ?_)),q2⟩
   rw[wI,aE aF (by omega)]
   cases lb<;>cases ab
   ·exact q1
   ·exact ag rfl (af rfl (aa (ax hx) (aa f29 q1)))
   ·exact af rfl (aa (ax hx) (aa f28 (ag rfl q1)))
   ·exact af rfl (aa (ax hx) (aa f28 (af rfl (aa (ax hx) (aa f29 q1)))))
 have Te:∀(m i:Nat) (lb ab:Bool),i+m=d.1.length→(lb=true↔∀j v,j<i→d.1[j]? = some v→mG v.2.2.1=true)→(ab=true↔∀j v,j<i→d.1[j]? = some v→kD v.2.2.2=true) →
   ∃r:Int,LX G 106 qt Tryz.f106 pP (aM Tryz.prog 106 0) ((((d.1.length:Nat):Int),(lb,(ab,((i:Int),())))),(((d,()),()),()))=some ((r,()),())∧(r=0↔ME d):=by
  intro m
  induction m with
  |zero =>
   intro i lb ab hi KM nO
   obtain⟨r,q1,q2⟩:=Td d.2.length 0 lb ab (by omega)
    ⟨fun h=>⟨fun v hv=>by
     obtain⟨j,hj⟩:=List.mem_iff_getElem?.1 hv
     exact KM.1 h j v (by have:=(List.getElem?_eq_some_iff.1 hj).1;omega) hj,fun j e hj=>by omega⟩,fun h=>KM.2 fun j v _ TR=>h.1 v (List.mem_of_getElem? TR)⟩
    ⟨fun h=>⟨fun v hv=>by
     obtain⟨j,hj⟩:=List.mem_iff_getElem?.1 hv
     exact nO.1 h j v (by have:=(List.getElem?_eq_some_iff.1 hj).1;omega) hj,fun j e hj=>by omega⟩,fun h=>nO.2 fun j v _ TR=>h.1 v (List.mem_of_getElem? TR)⟩
   exact⟨r,ao (j:=0) (by kernel_rfl) ((QS _ _ _).trans (ag (decide_eq_false (show ¬((i:Int)<((d.1.length:Nat):Int)) by omega)) q1)),q2⟩
  |succ m ih =>
   intro i lb ab hi KM nO
   have aF:i<d.1.length:=by omega
   have hx:d.1[i]? = some d.1[i]:=List.getElem?_eq_getElem aF
   have f28:=XY (hG 91 wR rfl) d.1[i].2.2.1 (tv _ (List.getElem_mem aF))
   have f29:=XZ (hG 90 yY rfl) d.1[i].2.2.2
   obtain⟨r,q1,q2⟩:=ih (i+1) (lb&&mG d.1[i].2.2.1) (ab&&kD d.1[i].2.2.2) (by omega)
    ⟨fun h=>by
     simp only[Bool.and_eq_true]at h
     exact fun j e hj xL=>by
      by_cases k:j=i
      ·subst k;rw[hx]at xL;cases xL;exact h.2
      ·exact KM.1 h.1 j e (by omega) xL,fun h=>cY (KM.2 fun j e hj=>h j e (by omega)) (h i _ (by omega) hx)⟩
    ⟨fun h=>by
     simp only[Bool.and_eq_true]at h
     exact fun j e hj xL=>by
      by_cases k:j=i
      ·subst k;rw[hx]at xL;cases xL;exact h.2
      ·exact nO.1 h.1 j e (by omega) xL,fun h=>cY (nO.2 fun j e hj=>h j e (by omega)) (h i _ (by omega) hx)⟩
   refine⟨r,ao (j:=0) (by kernel_rfl) ((QS _ _ _).trans (af (aX aF) ?_)),q2⟩
   rw[wI,aE aF (by omega)]
   cases lb<;>cases ab
   ·exact q1
   ·exact ag rfl (af rfl (aa (ax hx) (aa f29 q1)))
   ·exact af rfl (aa (ax hx) (aa f28 (ag rfl q1)))
   ·exact af rfl (aa (ax hx) (aa f28 (af rfl (aa (ax hx) (aa f29 q1)))))
 obtain⟨r,q1,q2⟩:=Te d.1.length 0 true true (by omega) ⟨fun _ j v hj=>by omega,fun _=>rfl⟩ ⟨fun _ j v hj=>by omega,fun _=>rfl⟩
 refine⟨r,pre (ag rfl (ag rfl (aa k3 (ag rfl q1)))),fun h=>?_,fun h=>q2.2 (YP h)⟩
 exact Vy (by omega) (by omega) (p1.1 rfl).1 (p1.1 rfl).2 (p2.1 rfl).1 (p2.1 rfl).2 (p3.1 rfl) (q2.1 h)
theorem aiN(hG:HG G)(d:aj)(hs:Sm d)(tv:∀v∈d.1,v.2.2.1.size≤100000000)(te:∀e∈d.2,e.2.1.size≤100000000):∃r:Int,FX G 72 Fh ((d,()),())=some ((r,()),())∧(r=0↔Wf d∧fS d=0):=by
 obtain⟨r,k1,k2⟩:=aiM hG d hs tv te
 have e0:=afs (FX G) (LX G 72 Fh Tryz.f72) ((d,()),())
 have fin:∀{y},bU 72 Fh Tryz.f72 (FX G) (LX G 72 Fh Tryz.f72) ((d,()),())=some y→FX G 72 Fh ((d,()),())=some y:=fun {y} h=>aw (fn:=Tryz.f72) (hG _ _ rfl) (by kernel_rfl) (by kernel_rfl) h
 by_cases hr:r=0
 ·have hw:=k2.1 hr
  have br:=hw.ne
  by_cases hg:fS d=0
  ·exact⟨0,fin (e0.trans (aa k1 (ag (by simp[hr]) (aa (XX hG d hs (by omega)) (ag (by simp[hg]) rfl))))),fun _=>⟨hw,hg⟩,fun _=>rfl⟩
  ·exact⟨11,fin (e0.trans (aa k1 (ag (by simp[hr]) (aa (XX hG d hs (by omega)) (af (by simp[hg]) rfl))))),fun h=>(by cases h),fun h=>absurd h.2 hg⟩
 ·exact⟨r,fin (e0.trans (aa k1 (af (by simp[hr]) rfl))),fun h=>absurd h hr,fun h=>k2.2 h.1⟩
end Go.Vs
