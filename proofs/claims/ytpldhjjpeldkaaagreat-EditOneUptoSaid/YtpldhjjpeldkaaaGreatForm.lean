/- What the document says of a diagram that may be: it is well formed. -/
import Derived.Test.YtpldhjjpeldkaaaGreatFormed
set_option linter.unusedVariables false
set_option linter.unusedSimpArgs false
namespace Go.Vs
open Go.Proofs
variable {G:(f:FuncId)→(g:aL)→Option (g.A→Option g.B)}
theorem QM{α:Type}{R:α→α→Prop}(tr:∀a b c,R a b→R b c→R a c){l:List α}(h:∀j x y,l[j]? = some x→l[j+1]? = some y→R x y):l.Pairwise R:=by
 rw [List.pairwise_iff_getElem]
 have key:∀(n i:Nat) (hi:i<l.length) (hj:i+n+1<l.length),R l[i] l[i+n+1]:=by
  intro n
  induction n with
  | zero=>intro i hi hj;exact h i _ _ (List.getElem?_eq_getElem hi) (List.getElem?_eq_getElem hj)
  | succ n ih =>
   intro i hi hj
   exact tr _ _ _ (ih i hi (by omega)) (h (i+n+1) _ _ (List.getElem?_eq_getElem (by omega)) (List.getElem?_eq_getElem hj))
 intro i j hi hj xW
 have:=key (j - i - 1) i hi (by omega)
 have e:i+(j - i - 1)+1=j:=by omega
 simpa only [e] using this
theorem KS{i n:Nat}(h0:0<i)(h:i<n)(hn:n≤1073741824):IntKind.wrap .i64 ((i:Int) - 1)=((i - 1:Nat):Int):=by
 rw [wrap_small (by omega) (by omega)];omega
theorem af1(hG:HG G)(l:List an)(hl:l.length≤1073741824):∃b,FX G 39 B5 ((l,()),())=some ((b,()),())∧(b=true→gj l∧l.length≤400):=by
 have loop:∀(n i:Nat),i+n=l.length→0<i→(∀j x y,j+1<i→l[j]? = some x→l[j+1]? = some y→j7 x.1 y.1=true) →
   ∃b,LX G 39 B5 Tryz.f39 Aw (aM Tryz.prog 39 0) ((l,((i:Int),())),((),()))=some ((b,()),())∧(b=true→gj l∧l.length≤400):=by
  intro n
  induction n with
  | zero =>
   intro i hi h0 ha
   refine ⟨_,ar (j:=0) (by kernel_rfl) ((IN _ _ _).trans (ag (decide_eq_false (show ¬((i:Int)<((l.length:Nat):Int)) by omega)) rfl)),fun hb=>⟨?_,?_⟩⟩
   ·refine QM (R:=fun a b:an=>j7 a.1 b.1=true) (fun a b c=>fi) fun j x y h1 h2=>ha j x y ?_ h1 h2
    have:=(List.getElem?_eq_some_iff.1 h2).1;omega
   ·have:((l.length:Nat):Int)≤400:=of_decide_eq_true hb
    omega
  | succ n ih =>
   intro i hi h0 ha
   have aJ:i<l.length:=by omega
   have hx:l[i]? = some l[i]:=List.getElem?_eq_getElem aJ
   have hy:l[i - 1]? = some l[i - 1]:=List.getElem?_eq_getElem (by omega)
   have e1:=IN (FX G) (LX G 39 B5 Tryz.f39) ((l,((i:Int),())),((),()))
   have e2:aS l (IntKind.wrap .i64 ((i:Int) - 1))=some l[i - 1]:=by rw [KS h0 aJ hl];exact az hy
   by_cases hc:j7 l[i - 1].1 l[i].1=true
   ·obtain ⟨b,h1,h2⟩:=ih (i+1) (by omega) (by omega) (fun j x y hj k1 k2=>by
     by_cases V7:j+1=i
     ·have ej:j=i - 1:=by omega
      subst ej
      rw [hy] at k1;rw [show i - 1+1=i by omega,hx] at k2
      cases k1;cases k2;exact hc
     ·exact ha j x y (by omega) k1 k2)
    refine ⟨b,ar (j:=0) (by kernel_rfl) (e1.trans (af (aT aJ) (aa e2 (aa (az hx) (aa (R7 hG _ _) (ag (decide_eq_false ?_) ?_)))))),h2⟩
    ·have:=(ri l[i - 1].1 l[i].1).2 hc
     show ¬(lA l[i - 1].1 l[i].1≥0)
     omega
    ·rw [aH aJ hl];exact h1
   ·refine ⟨false,ar (j:=0) (by kernel_rfl) (e1.trans (af (aT aJ) (aa e2 (aa (az hx) (aa (R7 hG _ _) (af (decide_eq_true ?_) rfl)))))),fun h=>by cases h⟩
    have:=mt (ri l[i - 1].1 l[i].1).1 hc
    show lA l[i - 1].1 l[i].1≥0
    omega
 have e0:=acN (FX G) (LX G 39 B5 Tryz.f39) ((l,()),())
 by_cases h0:l.length=0
 ·have hl0:l=[]:=List.eq_nil_of_length_eq_zero h0
  subst hl0
  refine ⟨true,aw (fn:=Tryz.f39) (hG _ _ rfl) (by kernel_rfl) (by kernel_rfl) (e0.trans (ar (j:=0) (by kernel_rfl) ((IN _ _ _).trans (ag rfl rfl)))),fun _=>⟨List.Pairwise.nil,by simp⟩⟩
 ·obtain ⟨b,h1,h2⟩:=loop (l.length - 1) 1 (by omega) (by omega) (fun j x y hj=>by omega)
  exact ⟨b,aw (fn:=Tryz.f39) (hG _ _ rfl) (by kernel_rfl) (by kernel_rfl) (e0.trans h1),h2⟩
theorem af2(hG:HG G)(d:aj)(hv:d.1.length≤50000000)(he:d.2.length≤50000000):FX G 82 xL ((d,()),())=some ((d.1.map (·.1)++d.2.map (·.1),()),()):=by
 refine aw (fn:=Tryz.f82) (hG _ _ rfl) (by kernel_rfl) (by kernel_rfl) ((adt _ _ _).trans ?_)
 have LV:∀(a:List ID),a.length≤50000000→LX G 82 xL Tryz.f82 vM (aM Tryz.prog 82 1) (((0:Int),()),(((d,()),()),(a,())))=some ((a++d.2.map (·.1),()),()):=by
  intro a ha
  have key:=bT d.2 (fun i (s:List ID)=>LX G 82 xL Tryz.f82 vM (aM Tryz.prog 82 1) ((i,()),(((d,()),()),(s,())))) (fun r s=>((s++r.map (·.1),()),())) (fun m s=>s.length+m≤100000000)
   (fun s _=>by
    refine ar (j:=1) (by kernel_rfl) ((OV _ _ _).trans (ag (dd _) ?_))
    simp only [List.map_nil,List.append_nil];rfl)
   (fun i x r s hi hx Cd hk ih=>by
    refine ar (j:=1) (by kernel_rfl) ((OV _ _ _).trans ?_)
    refine af (aT hi) (aa (az hx) (af (fits (by simp;omega)) ?_))
    rw [aH hi (by omega)]
    have:=ih (s++[x.1]) (by simp;omega)
    rw [show (x.1::([]:List ID))=[x.1] from rfl]
    refine this.trans ?_
    simp)
   a (by omega)
  exact key
 have key:=bT d.1 (fun i (s:List ID)=>LX G 82 xL Tryz.f82 AF (aM Tryz.prog 82 0) ((i,()),(((d,()),()),(s,())))) (fun r s=>(((s++r.map (·.1))++d.2.map (·.1),()),())) (fun m s=>s.length+m≤50000000)
  (fun s hs=>by
   refine ar (j:=0) (by kernel_rfl) ((OU _ _ _).trans (ag (dd _) ?_))
   refine (LV s (by omega)).trans ?_
   simp only [List.map_nil,List.append_nil];rfl)
  (fun i x r s hi hx Cd hk ih=>by
   refine ar (j:=0) (by kernel_rfl) ((OU _ _ _).trans ?_)
   refine af (aT hi) (aa (az hx) (af (fits (by simp;omega)) ?_))
   rw [aH hi (by omega)]
   have:=ih (s++[x.1]) (by simp;omega)
   rw [show (x.1::([]:List ID))=[x.1] from rfl]
   refine this.trans ?_
   simp)
  [] (by simpa using hv)
 exact key
theorem aaF(hG:HG G)(l:List ID)(hl:l.length≤1073741824):∃b,FX G 83 uh ((l,()),())=some ((b,()),())∧(b=true→(l.Pairwise fun a b=>eU a b=true)∧∀x∈l,cz x=true):=by
 have loop:∀(n i:Nat),i+n=l.length→(∀j x,j<i→l[j]? = some x→cz x=true)→(∀j x y,j+1<i→l[j]? = some x→l[j+1]? = some y→eU x y=true) →
   ∃b,LX G 83 uh Tryz.f83 vN (aM Tryz.prog 83 0) ((l,((i:Int),())),((),()))=some ((b,()),())∧(b=true→(l.Pairwise fun a b=>eU a b=true)∧∀x∈l,cz x=true):=by
  intro n
  induction n with
  | zero =>
   intro i hi hm ha
   refine ⟨true,ar (j:=0) (by kernel_rfl) ((OW _ _ _).trans (ag (decide_eq_false (show ¬((i:Int)<((l.length:Nat):Int)) by omega)) rfl)),fun _=>⟨?_,fun x hx => ?_⟩⟩
   ·refine QM (R:=fun a b:ID=>eU a b=true) (fun a b c=>fX) fun j x y h1 h2=>ha j x y ?_ h1 h2
    have:=(List.getElem?_eq_some_iff.1 h2).1;omega
   ·obtain ⟨j,hj⟩:=List.mem_iff_getElem?.1 hx
    exact hm j x (by have:=(List.getElem?_eq_some_iff.1 hj).1;omega) hj
  | succ n ih =>
   intro i hi hm ha
   have aJ:i<l.length:=by omega
   have hx:l[i]? = some l[i]:=List.getElem?_eq_getElem aJ
   have e1:=OW (FX G) (LX G 83 uh Tryz.f83) ((l,((i:Int),())),((),()))
   cases hmi:cz l[i] with
   | false=>exact ⟨false,ar (j:=0) (by kernel_rfl) (e1.trans (af (aT aJ) (aa (az hx) (aa (Cb (hG _ _ rfl) _) (aN hmi rfl))))),fun h=>by cases h⟩
   | true =>
    have Q0:∀j x,j<i+1→l[j]? = some x→cz x=true:=fun j x hj k=>by
     by_cases e:j=i
     ·subst e;rw [hx] at k;cases k;exact hmi
     ·exact hm j x (by omega) k
    by_cases h0:i=0
    ·obtain ⟨b,h1,h2⟩:=ih (i+1) (by omega) Q0 (fun j x y hj=>by omega)
     refine ⟨b,ar (j:=0) (by kernel_rfl) (e1.trans (af (aT aJ) (aa (az hx) (aa (Cb (hG _ _ rfl) _) (aN hmi (ag rfl (ag (decide_eq_false (show ¬((i:Int) > 0) by omega)) ?_))))))),h2⟩
     rw [aH aJ hl];exact h1
    ·have hy:l[i - 1]? = some l[i - 1]:=List.getElem?_eq_getElem (by omega)
     have e2:aS l (IntKind.wrap .i64 ((i:Int) - 1))=some l[i - 1]:=by rw [KS (by omega) aJ hl];exact az hy
     by_cases hc:eU l[i - 1] l[i]=true
     ·obtain ⟨b,h1,h2⟩:=ih (i+1) (by omega) Q0 (fun j x y hj k1 k2=>by
       by_cases V7:j+1=i
       ·have ej:j=i - 1:=by omega
        subst ej
        rw [hy] at k1;rw [show i - 1+1=i by omega,hx] at k2
        cases k1;cases k2;exact hc
       ·exact ha j x y (by omega) k1 k2)
      refine ⟨b,ar (j:=0) (by kernel_rfl) (e1.trans (af (aT aJ) (aa (az hx) (aa (Cb (hG _ _ rfl) _) (aN hmi (ag rfl (af (decide_eq_true (show ((i:Int) > 0) by omega)) (aa e2 (aa (az hx) (aa (Py (hG _ _ rfl) _ _) (ag (decide_eq_false ?_) ?_))))))))))),h2⟩
      ·have:=(jL l[i - 1] l[i]).2 hc
       show ¬(oD l[i - 1] l[i]≥0)
       omega
      ·rw [aH aJ hl];exact h1
     ·refine ⟨false,ar (j:=0) (by kernel_rfl) (e1.trans (af (aT aJ) (aa (az hx) (aa (Cb (hG _ _ rfl) _) (aN hmi (ag rfl (af (decide_eq_true (show ((i:Int) > 0) by omega)) (aa e2 (aa (az hx) (aa (Py (hG _ _ rfl) _ _) (af (decide_eq_true ?_) rfl))))))))))),fun h=>by cases h⟩
      have:=mt (jL l[i - 1] l[i]).1 hc
      show oD l[i - 1] l[i]≥0
      omega
 obtain ⟨b,h1,h2⟩:=loop l.length 0 (by omega) (fun j x hj=>by omega) (fun j x y hj=>by omega)
 exact ⟨b,aw (fn:=Tryz.f83) (hG _ _ rfl) (by kernel_rfl) (by kernel_rfl) ((adu _ _ _).trans h1),h2⟩
end Go.Vs
namespace Go.Vs
open Go.Proofs
variable {G:(f:FuncId)→(g:aL)→Option (g.A→Option g.B)}
theorem aaH(hG:HG G)(d:aj)(x:ae)(hs:Sm d)(hn:d.1.length≤24):FX G 105 nh ((d,x,()),())=some (((((av d.1).count x:Nat):Int),()),()):=by
 refine aw (fn:=Tryz.f105) (hG _ _ rfl) (by kernel_rfl) (by kernel_rfl) ((XM _ _ _).trans ?_)
 have inner:∀(v:ai) (i:Nat) (hv:d.1[i]? = some v) (m k acc:Nat) y,k+m=v.2.1.length→acc+m≤100000000000 →
   LX G 105 nh Tryz.f105 qX (aM Tryz.prog 105 0) ((((acc+(v.2.1.drop k).count x:Nat):Int),(((i+1:Nat):Int),())),(((d,()),((x,()),())),()))=some y →
   LX G 105 nh Tryz.f105 ow (aM Tryz.prog 105 1) (((acc:Int),((i:Int),((k:Int),()))),(((d,()),((x,()),())),()))=some y:=by
  intro v i hv m
  have MK:v.2.1.length≤50000000:=hs.r v (List.mem_of_getElem? hv)
  have hi:i<d.1.length:=(List.getElem?_eq_some_iff.1 hv).1
  induction m with
  | zero =>
   intro k acc y hk ha hy
   refine ar (j:=1) (by kernel_rfl) ((J2 _ _ _).trans ?_)
   refine aa (az hv) (ag (decide_eq_false (show ¬((k:Int)<((v.2.1.length:Nat):Int)) by omega)) ?_)
   rw [List.drop_eq_nil_of_le (by omega)] at hy
   rw [aH hi (by omega)]
   exact hy
  | succ m ih =>
   intro k acc y hk ha hy
   have aJ:k<v.2.1.length:=by omega
   have hx:v.2.1[k]? = some v.2.1[k]:=List.getElem?_eq_getElem aJ
   refine ar (j:=1) (by kernel_rfl) ((J2 _ _ _).trans ?_)
   refine aa (az hv) (af (aT aJ) (aa (az hv) (aa (az hx) ?_)))
   have hb:=j6 v.2.1[k] x
   rw [List.drop_eq_getElem_cons aJ,List.count_cons] at hy
   by_cases hc:v.2.1[k]=x
   ·refine af (hb.trans (decide_eq_true hc)) ?_
    have w1:IntKind.wrap .i64 ((acc:Int)+1)=((acc+1:Nat):Int):=by rw [wrap_small (by omega) (by omega)];omega
    show LX G 105 nh Tryz.f105 ow (aM Tryz.prog 105 1) ((IntKind.wrap .i64 ((acc:Int)+1),((i:Int),(IntKind.wrap .i64 ((k:Int)+1),()))),(((d,()),((x,()),())),()))=some y
    rw [w1,aH aJ (by omega)]
    refine ih (k+1) (acc+1) y (by omega) (by omega) ?_
    rw [if_pos (by simpa using hc),show acc+(List.count x (v.2.1.drop (k+1))+1)=acc+1+List.count x (v.2.1.drop (k+1)) by omega] at hy
    exact hy
   ·refine ag (hb.trans (decide_eq_false hc)) ?_
    rw [aH aJ (by omega)]
    refine ih (k+1) acc y (by omega) (by omega) ?_
    rw [if_neg (by simpa using hc)] at hy
    exact hy
 have outer:∀(m i acc:Nat),i+m=d.1.length→acc≤i * 50000000→LX G 105 nh Tryz.f105 qX (aM Tryz.prog 105 0) (((acc:Int),((i:Int),())),(((d,()),((x,()),())),()))=some ((((acc+(av (d.1.drop i)).count x:Nat):Int),()),()):=by
  intro m
  induction m with
  | zero =>
   intro i acc hi ha
   refine ar (j:=0) (by kernel_rfl) ((J1 _ _ _).trans (ag (decide_eq_false (show ¬((i:Int)<((d.1.length:Nat):Int)) by omega)) ?_))
   rw [List.drop_eq_nil_of_le (by omega)];rfl
  | succ m ih =>
   intro i acc hi ha
   have aJ:i<d.1.length:=by omega
   have hx:d.1[i]? = some d.1[i]:=List.getElem?_eq_getElem aJ
   have MK:d.1[i].2.1.length≤50000000:=hs.r _ (List.getElem_mem aJ)
   refine ar (j:=0) (by kernel_rfl) ((J1 _ _ _).trans (af (aT aJ) ?_))
   have sG:List.count x d.1[i].2.1≤d.1[i].2.1.length:=List.count_le_length
   refine inner d.1[i] i hx d.1[i].2.1.length 0 acc _ (by omega) (by omega) ?_
   rw [List.drop_zero]
   have:=ih (i+1) (acc+List.count x d.1[i].2.1) (by omega) (by omega)
   refine this.trans ?_
   rw [List.drop_eq_getElem_cons aJ,ia,List.count_append,Nat.add_assoc];rfl
 have:=outer d.1.length 0 0 (by omega) (by omega)
 rw [List.drop_zero,Nat.zero_add] at this
 exact this
structure yK(d:aj):Prop where
 t:∀v∈d.1,cp v.2.1=v.2.1
 e:∀v∈d.1,∀x∈v.2.1,(aW d.2 x.1).isSome=true∧0≤x.2∧x.2≤1
 c:∀e∈d.2,∀s:Int,s=0∨s=1→(av d.1).count (e.1,s)=1
theorem af3(hG:HG G)(d:aj)(hs:Sm d)(hn:d.1.length≤24):∃b,FX G 84 kA ((d,()),())=some ((b,()),())∧(b=true→yK d):=by
 have rM:=hs.e
 have QN:∀(m i:Nat),i+m=d.2.length→(∀v∈d.1,cp v.2.1=v.2.1)→(∀v∈d.1,∀x∈v.2.1,(aW d.2 x.1).isSome=true∧0≤x.2∧x.2≤1)→(∀j e,j<i→d.2[j]? = some e→∀s:Int,s=0∨s=1→(av d.1).count (e.1,s)=1) →
   ∃b,LX G 84 kA Tryz.f84 vP (aM Tryz.prog 84 2) (((i:Int),()),(((d,()),()),()))=some ((b,()),())∧(b=true→yK d):=by
  intro m
  induction m with
  | zero =>
   intro i hi h1 h2 h3
   refine ⟨true,ar (j:=2) (by kernel_rfl) ((OZ _ _ _).trans (ag (decide_eq_false (show ¬((i:Int)<((d.2.length:Nat):Int)) by omega)) rfl)),fun _=>⟨h1,h2,fun e he s hs => ?_⟩⟩
   obtain ⟨j,hj⟩:=List.mem_iff_getElem?.1 he
   exact h3 j e (by have:=(List.getElem?_eq_some_iff.1 hj).1;omega) hj s hs
  | succ m ih =>
   intro i hi h1 h2 h3
   have aJ:i<d.2.length:=by omega
   have hx:d.2[i]? = some d.2[i]:=List.getElem?_eq_getElem aJ
   have key:∀(s:Nat),s≤1→∀y,((av d.1).count (d.2[i].1,(s:Int))=1→LX G 84 kA Tryz.f84 ta (aM Tryz.prog 84 3) (((i:Int),(((s+1:Nat):Int),())),(((d,()),()),()))=some y)→((av d.1).count (d.2[i].1,(s:Int))≠1→y=((false,()),())) →
     LX G 84 kA Tryz.f84 ta (aM Tryz.prog 84 3) (((i:Int),((s:Int),())),(((d,()),()),()))=some y:=by
    intro s D3 y k1 k2
    refine ar (j:=3) (by kernel_rfl) ((O0 _ _ _).trans ?_)
    refine af (decide_eq_true (show ((s:Int)<2) by omega)) (aa (az hx) (aa (aaH hG d (d.2[i].1,(s:Int)) hs hn) ?_))
    by_cases hc:(av d.1).count (d.2[i].1,(s:Int))=1
    ·refine ag (show ((((av d.1).count (d.2[i].1,(s:Int)):Nat):Int) != 1)=false by rw [hc];rfl) ?_
     have w1:IntKind.wrap .i64 ((s:Int)+1)=((s+1:Nat):Int):=by rw [wrap_small (by omega) (by omega)];omega
     rw [w1];exact k1 hc
    ·rw [k2 hc]
     exact af (show ((((av d.1).count (d.2[i].1,(s:Int)):Nat):Int) != 1)=true by rw [bne_iff_ne];omega) rfl
   have go:∀y,LX G 84 kA Tryz.f84 ta (aM Tryz.prog 84 3) (((i:Int),((0:Int),())),(((d,()),()),()))=some y→LX G 84 kA Tryz.f84 vP (aM Tryz.prog 84 2) (((i:Int),()),(((d,()),()),()))=some y:=fun y hy =>
    ar (j:=2) (by kernel_rfl) ((OZ _ _ _).trans (af (aT aJ) hy))
   by_cases c0:(av d.1).count (d.2[i].1,((0:Nat):Int))=1
   ·by_cases c1:(av d.1).count (d.2[i].1,((1:Nat):Int))=1
    ·obtain ⟨b,k1,k2⟩:=ih (i+1) (by omega) h1 h2 (fun j e hj BE s hs=>by
      by_cases V7:j=i
      ·subst V7;rw [hx] at BE;cases BE
       rcases hs with rfl | rfl
       ·exact c0
       ·exact c1
      ·exact h3 j e (by omega) BE s hs)
     refine ⟨b,go _ (key 0 (by omega) _ (fun _=>key 1 (by omega) _ (fun _ => ?_) fun h=>absurd c1 h) fun h=>absurd c0 h),k2⟩
     refine ar (j:=3) (by kernel_rfl) ((O0 _ _ _).trans (ag (decide_eq_false (show ¬((((1+1:Nat):Nat):Int)<2) by omega)) ?_))
     rw [aH aJ (by omega)]
     exact k1
    ·exact ⟨false,go _ (key 0 (by omega) _ (fun _=>key 1 (by omega) _ (fun h=>absurd h c1) fun _=>rfl) fun h=>absurd c0 h),fun h=>by cases h⟩
   ·exact ⟨false,go _ (key 0 (by omega) _ (fun h=>absurd h c0) fun _=>rfl),fun h=>by cases h⟩
 have ring:∀(v:ai) (i:Nat) (hv:d.1[i]? = some v) (y:Bool) (P:Prop),(P→LX G 84 kA Tryz.f84 s8 (aM Tryz.prog 84 0) ((((i+1:Nat):Int),()),(((d,()),()),()))=some ((y,()),()))→(¬P→y=false)→(P↔∀x∈v.2.1,(aW d.2 x.1).isSome=true∧0≤x.2∧x.2≤1) →
   ∀(m k:Nat),k+m=v.2.1.length→(∀j x,j<k→v.2.1[j]? = some x→(aW d.2 x.1).isSome=true∧0≤x.2∧x.2≤1) →
   LX G 84 kA Tryz.f84 vO (aM Tryz.prog 84 1) (((i:Int),(v.2.1,((k:Int),()))),(((d,()),()),()))=some ((y,()),()):=by
  intro v i hv y P hP hnP hPi m
  have hi:i<d.1.length:=(List.getElem?_eq_some_iff.1 hv).1
  have MK:v.2.1.length≤50000000:=hs.r v (List.mem_of_getElem? hv)
  induction m with
  | zero =>
   intro k hk hj
   have p:P:=hPi.2 fun x hx=>by
    obtain ⟨j,WD⟩:=List.mem_iff_getElem?.1 hx
    exact hj j x (by have:=(List.getElem?_eq_some_iff.1 WD).1;omega) WD
   refine ar (j:=1) (by kernel_rfl) ((OY _ _ _).trans (ag (decide_eq_false (show ¬((k:Int)<((v.2.1.length:Nat):Int)) by omega)) ?_))
   rw [aH hi (by omega)]
   exact hP p
  | succ m ih =>
   intro k hk hj
   have aJ:k<v.2.1.length:=by omega
   have hx:v.2.1[k]? = some v.2.1[k]:=List.getElem?_eq_getElem aJ
   have gm:v.2.1[k]∈v.2.1:=List.getElem_mem aJ
   refine ar (j:=1) (by kernel_rfl) ((OY _ _ _).trans (af (aT aJ) (aa (az hx) (aa (PA (hG _ _ rfl) d v.2.1[k].1 (by omega)) ?_))))
   have hE:(oF zE (gq d v.2.1[k].1)).2.1=(aW d.2 v.2.1[k].1).isSome:=fW _ _
   cases yg:(aW d.2 v.2.1[k].1).isSome
   case false =>
    rw [hnP fun p=>by have:=(hPi.1 p _ gm).1;rw [yg] at this;cases this]
    exact aN (hE.trans yg) rfl
   refine aN (hE.trans yg) (ag rfl (aa (az hx) ?_))
   by_cases h0:v.2.1[k].2<0
   ·rw [hnP fun p=>by have:=(hPi.1 p _ gm).2.1;omega]
    exact af (decide_eq_true h0) rfl
   refine ag (decide_eq_false h0) (aa (az hx) ?_)
   by_cases h1:v.2.1[k].2 > 1
   ·rw [hnP fun p=>by have:=(hPi.1 p _ gm).2.2;omega]
    exact af (decide_eq_true h1) rfl
   refine ag (decide_eq_false h1) ?_
   rw [aH aJ (by omega)]
   refine ih (k+1) (by omega) fun j x hjk WD => ?_
   by_cases BE:j=k
   ·subst BE;rw [hx] at WD;cases WD;exact ⟨yg,by omega,by omega⟩
   ·exact hj j x (by omega) WD
 have QO:∀(m i:Nat),i+m=d.1.length→(∀j v,j<i→d.1[j]? = some v→cp v.2.1=v.2.1∧∀x∈v.2.1,(aW d.2 x.1).isSome=true∧0≤x.2∧x.2≤1) →
   ∃b,LX G 84 kA Tryz.f84 s8 (aM Tryz.prog 84 0) (((i:Int),()),(((d,()),()),()))=some ((b,()),())∧(b=true→yK d):=by
  intro m
  induction m with
  | zero =>
   intro i hi hj
   have eg:∀v∈d.1,cp v.2.1=v.2.1∧∀x∈v.2.1,(aW d.2 x.1).isSome=true∧0≤x.2∧x.2≤1:=fun v hv=>by
    obtain ⟨j,WE⟩:=List.mem_iff_getElem?.1 hv
    exact hj j v (by have:=(List.getElem?_eq_some_iff.1 WE).1;omega) WE
   obtain ⟨b,k1,k2⟩:=QN d.2.length 0 (by omega) (fun v hv=>(eg v hv).1) (fun v hv=>(eg v hv).2) (fun j e hj=>by omega)
   exact ⟨b,ar (j:=0) (by kernel_rfl) ((OX _ _ _).trans (ag (decide_eq_false (show ¬((i:Int)<((d.1.length:Nat):Int)) by omega)) k1)),k2⟩
  | succ m ih =>
   intro i hi hj
   have aJ:i<d.1.length:=by omega
   have hx:d.1[i]? = some d.1[i]:=List.getElem?_eq_getElem aJ
   have MK:d.1[i].2.1.length≤50000000:=hs.r _ (List.getElem_mem aJ)
   have start:∀y,cond (not (decide (d.1[i].2.1=cp d.1[i].2.1))) (some ((false,()),())) (LX G 84 kA Tryz.f84 vO (aM Tryz.prog 84 1) (((i:Int),(d.1[i].2.1,((0:Int),()))),(((d,()),()),())))=some y →
     LX G 84 kA Tryz.f84 s8 (aM Tryz.prog 84 0) (((i:Int),()),(((d,()),()),()))=some y:=fun y hy =>
    ar (j:=0) (by kernel_rfl) ((OX _ _ _).trans (af (aT aJ) (aa (az hx) (aa (Ey hG d.1[i].2.1 (by omega)) (aa (YQ hG d.1[i].2.1 (cp d.1[i].2.1) (by omega)) hy)))))
   by_cases ht:d.1[i].2.1=cp d.1[i].2.1
   ·by_cases hp:∀x∈d.1[i].2.1,(aW d.2 x.1).isSome=true∧0≤x.2∧x.2≤1
    ·obtain ⟨b,k1,k2⟩:=ih (i+1) (by omega) (fun j v V7 WE=>by
      by_cases BE:j=i
      ·subst BE;rw [hx] at WE;cases WE;exact ⟨ht.symm,hp⟩
      ·exact hj j v (by omega) WE)
     exact ⟨b,start _ (aN (decide_eq_true ht) (ag rfl (ring d.1[i] i hx b _ (fun _=>k1) (fun h=>absurd hp h) Iff.rfl d.1[i].2.1.length 0 (by omega) fun j x hj=>by omega))),k2⟩
    ·exact ⟨false,start _ (aN (decide_eq_true ht) (ag rfl (ring d.1[i] i hx false _ (fun h=>absurd h hp) (fun _=>rfl) Iff.rfl d.1[i].2.1.length 0 (by omega) fun j x hj=>by omega))),fun h=>by cases h⟩
   ·exact ⟨false,start _ (aN (decide_eq_false ht) rfl),fun h=>by cases h⟩
 obtain ⟨b,k1,k2⟩:=QO d.1.length 0 (by omega) (fun j v hj=>by omega)
 exact ⟨b,aw (fn:=Tryz.f84) (hG _ _ rfl) (by kernel_rfl) (by kernel_rfl) ((adv _ _ _).trans k1),k2⟩
end Go.Vs
namespace Go.Vs
open Go.Proofs
variable {G:(f:FuncId)→(g:aL)→Option (g.A→Option g.B)}
theorem aaI{α:Type}(a b:List α):cut (a++b) 0 ((a.length:Nat):Int)=a:=by
 unfold cut
 rw [Int.toNat_natCast,List.take_left];rfl
theorem aaJ{α:Type}(a b:List α):cut (a++b) ((a.length:Nat):Int) (((a++b).length:Nat):Int)=b:=by
 unfold cut
 rw [Int.toNat_natCast,Int.toNat_natCast,List.take_length,List.drop_left]
theorem Dy{x:ae}:∀{l:List ae},l.Nodup→x∈l→l.count x=1
 | a::r,hn,hm=>by
  obtain ⟨h1,h2⟩:=List.nodup_cons.1 hn
  rw [List.count_cons]
  by_cases e:a=x
  ·subst e;rw [List.count_eq_zero.2 h1];simp
  ·rw [if_neg (by simpa using e)]
   exact Dy h2 ((List.mem_cons.1 hm).resolve_left fun k=>e k.symm)
structure QP(d:aj):Prop where
 v:∀v∈d.1,qp v.2.2.1=true∧mG v.2.2.2=true
 e:∀e∈d.2,qp e.2.1=true∧mG e.2.2=true
theorem SZ{d:aj}(nv:d.1.length≤24)(ne:d.2.length≤40)(hv:(d.1.map (·.1)).Pairwise fun a b=>eU a b=true)(mv:∀x∈d.1.map (·.1),cz x=true)(he:(d.2.map (·.1)).Pairwise fun a b=>eU a b=true)(me:∀x∈d.2.map (·.1),cz x=true)(hr:yK d)(hl:QP d):Wf d:=by
 have sv:bV d.1:=List.pairwise_map.1 hv
 have se:c5 d.2:=List.pairwise_map.1 he
 refine ⟨sv,se,nv,ne,fun v h=>⟨mv _ (List.mem_map.2 ⟨v,h,rfl⟩),(hl.v v h).1,(hl.v v h).2,hr.t v h⟩,fun e h=>⟨me _ (List.mem_map.2 ⟨e,h,rfl⟩),(hl.e e h).1,(hl.e e h).2⟩,?_⟩
 rw [List.perm_iff_count]
 intro x
 by_cases hx:x∈ends d.2
 ·rw [Dy (ti se) hx]
  obtain ⟨e,h1,h2,h3⟩:=dP.1 hx
  have:=hr.c e h1 x.2 h3
  rw [h2] at this
  exact this
 ·rw [List.count_eq_zero.2 hx,List.count_eq_zero]
  intro hd
  obtain ⟨v,h1,h2⟩:=bz.1 hd
  obtain ⟨k1,k2,k3⟩:=hr.e v h1 x h2
  obtain ⟨e,hee⟩:=Option.isSome_iff_exists.1 k1
  exact hx (dP.2 ⟨e,C2 hee,qv hee,by omega⟩)
theorem af5(hG:HG G)(d:aj)(hs:Sm d)(tv:∀v∈d.1,v.2.2.1.size≤100000000)(te:∀e∈d.2,e.2.1.size≤100000000):∃r:Int,FX G 63 pe ((d,()),())=some ((r,()),())∧(r=0→Wf d):=by
 have e0:=ac9 (FX G) (LX G 63 pe Tryz.f63) ((d,()),())
 have fin:∀{y},bW 63 pe Tryz.f63 (FX G) (LX G 63 pe Tryz.f63) ((d,()),())=some y→FX G 63 pe ((d,()),())=some y:=fun {y} h=>aw (fn:=Tryz.f63) (hG _ _ rfl) (by kernel_rfl) (by kernel_rfl) h
 by_cases hn:24<d.1.length
 ·exact ⟨3,fin (e0.trans (af (decide_eq_true (show ((d.1.length:Nat):Int) > 24 by omega)) rfl)),fun h=>by cases h⟩
 by_cases hm:40<d.2.length
 ·exact ⟨3,fin (e0.trans (ag (decide_eq_false (show ¬((d.1.length:Nat):Int) > 24 by omega)) (af (decide_eq_true (show ((d.2.length:Nat):Int) > 40 by omega)) rfl))),fun h=>by cases h⟩
 obtain ⟨ids,mu⟩:∃ids,ids=d.1.map (·.1)++d.2.map (·.1):=⟨_,rfl⟩
 have l1:(d.1.map (·.1)).length=d.1.length:=List.length_map _
 have l2:(d.2.map (·.1)).length=d.2.length:=List.length_map _
 have mC:ids.length=d.1.length+d.2.length:=by rw [mu,List.length_append,l1,l2]
 have c1:cut ids 0 ((d.1.length:Nat):Int)=d.1.map (·.1):=by rw [mu,←l1];exact aaI _ _
 have c2:cut ids ((d.1.length:Nat):Int) ((ids.length:Nat):Int)=d.2.map (·.1):=by rw [mu,←l1];exact aaJ _ _
 obtain ⟨b1,k1,p1⟩:=aaF hG (d.1.map (·.1)) (by rw [l1];omega)
 obtain ⟨b2,k2,p2⟩:=aaF hG (d.2.map (·.1)) (by rw [l2];omega)
 have o1:aX ids.length 0 ((d.1.length:Nat):Int)=true:=by
  unfold aX;rw [mC];simp only [Bool.and_eq_true,decide_eq_true_eq];omega
 have o2:aX ids.length ((d.1.length:Nat):Int) ((ids.length:Nat):Int)=true:=by
  unfold aX;rw [mC];simp only [Bool.and_eq_true,decide_eq_true_eq];omega
 have kc1:FX G 83 uh ((cut ids 0 ((d.1.length:Nat):Int),()),())=some ((b1,()),()):=(congrArg (fun q:List ID=>FX G 83 uh ((q,()),())) c1).trans k1
 have kc2:FX G 83 uh ((cut ids ((d.1.length:Nat):Int) ((ids.length:Nat):Int),()),())=some ((b2,()),()):=(congrArg (fun q:List ID=>FX G 83 uh ((q,()),())) c2).trans k2
 have h82:=af2 hG d hs.v hs.e
 rw [←mu] at h82
 have pre:∀{y},cond (not b1) (some (((10:Int),()),())) (cond (not b2) (some (((10:Int),()),())) ((FX G 84 kA ((d,()),())).bind fun (y4:((Bool×Unit)×Unit))=>cond (not y4.1.1) (some (((10:Int),()),())) (LX G 63 pe Tryz.f63 oy (aM Tryz.prog 63 0) ((((d.1.length:Nat):Int),(true,(true,((0:Int),())))),(((d,()),()),())))))=some y →
   FX G 63 pe ((d,()),())=some y:=fun {y} h=>by
  refine fin (e0.trans ?_)
  refine ag (decide_eq_false (show ¬((d.1.length:Nat):Int) > 24 by omega)) (ag (decide_eq_false (show ¬((d.2.length:Nat):Int) > 40 by omega)) ?_)
  refine aa h82 (af o1 ?_)
  refine aa kc1 (af o2 ?_)
  exact aa kc2 h
 cases LL:b1 with
 | false=>subst LL;exact ⟨10,pre rfl,fun h=>by cases h⟩
 | true =>
 cases xX:b2 with
 | false=>subst LL;subst xX;exact ⟨10,pre rfl,fun h=>by cases h⟩
 | true =>
 subst LL;subst xX
 obtain ⟨b3,k3,p3⟩:=af3 hG d hs (by omega)
 cases TA:b3 with
 | false=>subst TA;exact ⟨10,pre (ag rfl (ag rfl (aa k3 rfl))),fun h=>by cases h⟩
 | true =>
 subst TA
 have QN:∀(m i:Nat) (lb ab:Bool),i+m=d.2.length→(lb=true→(∀v∈d.1,qp v.2.2.1=true)∧∀j e,j<i→d.2[j]? = some e→qp e.2.1=true)→(ab=true→(∀v∈d.1,mG v.2.2.2=true)∧∀j e,j<i→d.2[j]? = some e→mG e.2.2=true) →
   ∃r:Int,LX G 63 pe Tryz.f63 oz (aM Tryz.prog 63 1) ((lb,(ab,((i:Int),()))),(((d,()),()),()))=some ((r,()),())∧(r=0→QP d):=by
  intro m
  induction m with
  | zero =>
   intro i lb ab hi Qi r9
   have c:∀{y},cond (not lb) (some (((4:Int),()),())) (cond (not ab) (some (((1:Int),()),())) (some (((0:Int),()),())))=some y→LX G 63 pe Tryz.f63 oz (aM Tryz.prog 63 1) ((lb,(ab,((i:Int),()))),(((d,()),()),()))=some y:=fun {y} h =>
    ar (j:=1) (by kernel_rfl) ((OP _ _ _).trans (ag (decide_eq_false (show ¬((i:Int)<((d.2.length:Nat):Int)) by omega)) h))
   cases lb with
   | false=>exact ⟨4,c rfl,fun h=>by cases h⟩
   | true =>
    cases ab with
    | false=>exact ⟨1,c rfl,fun h=>by cases h⟩
    | true =>
     refine ⟨0,c rfl,fun _=>⟨fun v hv=>⟨(Qi rfl).1 v hv,(r9 rfl).1 v hv⟩,fun e he => ?_⟩⟩
     obtain ⟨j,hj⟩:=List.mem_iff_getElem?.1 he
     have V7:j<i:=by have:=(List.getElem?_eq_some_iff.1 hj).1;omega
     exact ⟨(Qi rfl).2 j e V7 hj,(r9 rfl).2 j e V7 hj⟩
  | succ m ih =>
   intro i lb ab hi Qi r9
   have aJ:i<d.2.length:=by omega
   have hx:d.2[i]? = some d.2[i]:=List.getElem?_eq_getElem aJ
   have f28:=U9 (hG 28 vE rfl) d.2[i].2.1 (te _ (List.getElem_mem aJ))
   have f29:=Va (hG 29 xD rfl) d.2[i].2.2
   obtain ⟨r,q1,q2⟩:=ih (i+1) (lb&&qp d.2[i].2.1) (ab&&mG d.2[i].2.2) (by omega)
    (fun h=>by
     simp only [Bool.and_eq_true] at h
     exact ⟨(Qi h.1).1,fun j e hj BE=>by
      by_cases k:j=i
      ·subst k;rw [hx] at BE;cases BE;exact h.2
      ·exact (Qi h.1).2 j e (by omega) BE⟩)
    (fun h=>by
     simp only [Bool.and_eq_true] at h
     exact ⟨(r9 h.1).1,fun j e hj BE=>by
      by_cases k:j=i
      ·subst k;rw [hx] at BE;cases BE;exact h.2
      ·exact (r9 h.1).2 j e (by omega) BE⟩)
   refine ⟨r,ar (j:=1) (by kernel_rfl) ((OP _ _ _).trans (af (aT aJ) ?_)),q2⟩
   rw [aH aJ (by omega)]
   cases lb<;>cases ab
   ·exact q1
   ·exact ag rfl (af rfl (aa (az hx) (aa f29 q1)))
   ·exact af rfl (aa (az hx) (aa f28 (ag rfl q1)))
   ·exact af rfl (aa (az hx) (aa f28 (af rfl (aa (az hx) (aa f29 q1)))))
 have QO:∀(m i:Nat) (lb ab:Bool),i+m=d.1.length→(lb=true→∀j v,j<i→d.1[j]? = some v→qp v.2.2.1=true)→(ab=true→∀j v,j<i→d.1[j]? = some v→mG v.2.2.2=true) →
   ∃r:Int,LX G 63 pe Tryz.f63 oy (aM Tryz.prog 63 0) ((((d.1.length:Nat):Int),(lb,(ab,((i:Int),())))),(((d,()),()),()))=some ((r,()),())∧(r=0→QP d):=by
  intro m
  induction m with
  | zero =>
   intro i lb ab hi Qi r9
   obtain ⟨r,q1,q2⟩:=QN d.2.length 0 lb ab (by omega)
    (fun h=>⟨fun v hv=>by
     obtain ⟨j,hj⟩:=List.mem_iff_getElem?.1 hv
     exact Qi h j v (by have:=(List.getElem?_eq_some_iff.1 hj).1;omega) hj,fun j e hj=>by omega⟩)
    (fun h=>⟨fun v hv=>by
     obtain ⟨j,hj⟩:=List.mem_iff_getElem?.1 hv
     exact r9 h j v (by have:=(List.getElem?_eq_some_iff.1 hj).1;omega) hj,fun j e hj=>by omega⟩)
   exact ⟨r,ar (j:=0) (by kernel_rfl) ((OO _ _ _).trans (ag (decide_eq_false (show ¬((i:Int)<((d.1.length:Nat):Int)) by omega)) q1)),q2⟩
  | succ m ih =>
   intro i lb ab hi Qi r9
   have aJ:i<d.1.length:=by omega
   have hx:d.1[i]? = some d.1[i]:=List.getElem?_eq_getElem aJ
   have f28:=U9 (hG 28 vE rfl) d.1[i].2.2.1 (tv _ (List.getElem_mem aJ))
   have f29:=Va (hG 29 xD rfl) d.1[i].2.2.2
   obtain ⟨r,q1,q2⟩:=ih (i+1) (lb&&qp d.1[i].2.2.1) (ab&&mG d.1[i].2.2.2) (by omega)
    (fun h=>by
     simp only [Bool.and_eq_true] at h
     exact fun j e hj BE=>by
      by_cases k:j=i
      ·subst k;rw [hx] at BE;cases BE;exact h.2
      ·exact Qi h.1 j e (by omega) BE)
    (fun h=>by
     simp only [Bool.and_eq_true] at h
     exact fun j e hj BE=>by
      by_cases k:j=i
      ·subst k;rw [hx] at BE;cases BE;exact h.2
      ·exact r9 h.1 j e (by omega) BE)
   refine ⟨r,ar (j:=0) (by kernel_rfl) ((OO _ _ _).trans (af (aT aJ) ?_)),q2⟩
   rw [aH aJ (by omega)]
   cases lb<;>cases ab
   ·exact q1
   ·exact ag rfl (af rfl (aa (az hx) (aa f29 q1)))
   ·exact af rfl (aa (az hx) (aa f28 (ag rfl q1)))
   ·exact af rfl (aa (az hx) (aa f28 (af rfl (aa (az hx) (aa f29 q1)))))
 obtain ⟨r,q1,q2⟩:=QO d.1.length 0 true true (by omega) (fun _ j v hj=>by omega) (fun _ j v hj=>by omega)
 refine ⟨r,pre (ag rfl (ag rfl (aa k3 (ag rfl q1)))),fun h => ?_⟩
 exact SZ (by omega) (by omega) (p1 rfl).1 (p1 rfl).2 (p2 rfl).1 (p2 rfl).2 (p3 rfl) (q2 h)
theorem af6(hG:HG G)(d:aj)(hs:Sm d)(tv:∀v∈d.1,v.2.2.1.size≤100000000)(te:∀e∈d.2,e.2.1.size≤100000000):∃r:Int,FX G 40 Eb ((d,()),())=some ((r,()),())∧(r=0→Wf d∧fP d=0):=by
 obtain ⟨r,k1,k2⟩:=af5 hG d hs tv te
 have e0:=acO (FX G) (LX G 40 Eb Tryz.f40) ((d,()),())
 have fin:∀{y},bW 40 Eb Tryz.f40 (FX G) (LX G 40 Eb Tryz.f40) ((d,()),())=some y→FX G 40 Eb ((d,()),())=some y:=fun {y} h=>aw (fn:=Tryz.f40) (hG _ _ rfl) (by kernel_rfl) (by kernel_rfl) h
 by_cases hr:r=0
 ·have hw:=k2 hr
  have bj:=hw.ne
  by_cases hg:fP d=0
  ·exact ⟨0,fin (e0.trans (aa k1 (ag (by simp [hr]) (aa (U8 hG d hs (by omega)) (ag (by simp [hg]) rfl))))),fun _=>⟨hw,hg⟩⟩
  ·exact ⟨11,fin (e0.trans (aa k1 (ag (by simp [hr]) (aa (U8 hG d hs (by omega)) (af (by simp [hg]) rfl))))),fun h=>by cases h⟩
 ·exact ⟨r,fin (e0.trans (aa k1 (af (by simp [hr]) rfl))),fun h=>absurd h hr⟩
theorem af7(hG:HG G)(s:StateT)(hs:Sm s.1)(hg:s.2.length≤50000000)(tv:∀v∈s.1.1,v.2.2.1.size≤100000000)(te:∀e∈s.1.2,e.2.1.size≤100000000):∃b,FX G 13 D9 ((s,()),())=some ((b,()),())∧(b=true→iF s∧fP s.1=0):=by
 obtain ⟨b,k1,k2⟩:=af1 hG s.2 (by omega)
 have e0:=acu (FX G) (LX G 13 D9 Tryz.f13) ((s,()),())
 have fin:∀{y},bW 13 D9 Tryz.f13 (FX G) (LX G 13 D9 Tryz.f13) ((s,()),())=some y→FX G 13 D9 ((s,()),())=some y:=fun {y} h=>aw (fn:=Tryz.f13) (hG _ _ rfl) (by kernel_rfl) (by kernel_rfl) h
 cases b with
 | false=>exact ⟨false,fin (e0.trans (aa k1 rfl)),fun h=>by cases h⟩
 | true =>
  obtain ⟨r,q1,q2⟩:=af6 hG s.1 hs tv te
  obtain ⟨sg,sn⟩:=k2 rfl
  refine ⟨r==0,fin (e0.trans (aa k1 (af rfl (aa q1 rfl)))),fun h => ?_⟩
  obtain ⟨hw,QX⟩:=q2 ((beq_iff_eq (α:=Int)).1 h)
  exact ⟨⟨hw,sg,sn⟩,QX⟩
end Go.Vs
