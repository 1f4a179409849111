/- What the document says of a diagram that may be: it is well formed. -/
import Derived.Test.YtpldhjjpeldkaaaGreatFormed
set_option linter.unusedVariables false
set_option linter.unusedSimpArgs false
namespace Go.Vs
open Go.Proofs
variable {G:(f:FuncId)→(g:aL)→Option (g.A→Option g.B)}
theorem QQ{α:Type}{R:α→α→Prop}(tr:∀a b c,R a b→R b c→R a c){l:List α}(h:∀j x y,l[j]? = some x→l[j+1]? = some y→R x y):l.Pairwise R:=by
 rw [List.pairwise_iff_getElem]
 have key:∀(n i:Nat) (hi:i<l.length) (hj:i+n+1<l.length),R l[i] l[i+n+1]:=by
  intro n
  induction n with
  | zero=>intro i hi hj;exact h i _ _ (List.getElem?_eq_getElem hi) (List.getElem?_eq_getElem hj)
  | succ n ih =>
   intro i hi hj
   exact tr _ _ _ (ih i hi (by omega)) (h (i+n+1) _ _ (List.getElem?_eq_getElem (by omega)) (List.getElem?_eq_getElem hj))
 intro i j hi hj yu
 have:=key (j - i - 1) i hi (by omega)
 have e:i+(j - i - 1)+1=j:=by omega
 simpa only [e] using this
theorem Lf{i n:Nat}(h0:0<i)(h:i<n)(hn:n≤1073741824):IntKind.wrap .i64 ((i:Int) - 1)=((i - 1:Nat):Int):=by
 rw [wrap_small (by omega) (by omega)];omega
theorem agv(hG:HG G)(l:List aM)(hl:l.length≤1073741824):∃b,FX G 39 vQ ((l,()),())=some ((b,()),())∧(b=true↔fX l∧l.length≤400):=by
 have loop:∀(n i:Nat),i+n=l.length→0<i→(∀j x y,j+1<i→l[j]? = some x→l[j+1]? = some y→kd x.1 y.1=true) →
   ∃b,LX G 39 vQ Tryz.f39 AQ (aX Tryz.prog 39 0) ((l,((i:Int),())),((),()))=some ((b,()),())∧(b=true↔fX l∧l.length≤400):=by
  intro n
  induction n with
  | zero =>
   intro i hi h0 ha
   refine ⟨_,aw (j:=0) (by kernel_rfl) ((I4 _ _ _).trans (ag (decide_eq_false (show ¬((i:Int)<((l.length:Nat):Int)) by omega)) rfl)),fun hb=>⟨?_,?_⟩,fun hb=>decide_eq_true (show ((l.length:Nat):Int)≤400 by have:=hb.2;omega)⟩
   ·refine QQ (R:=fun a b:aM=>kd a.1 b.1=true) (fun a b c=>fk) fun j x y h1 h2=>ha j x y ?_ h1 h2
    have:=(List.getElem?_eq_some_iff.1 h2).1;omega
   ·have:((l.length:Nat):Int)≤400:=of_decide_eq_true hb
    omega
  | succ n ih =>
   intro i hi h0 ha
   have aE:i<l.length:=by omega
   have hx:l[i]? = some l[i]:=List.getElem?_eq_getElem aE
   have hy:l[i - 1]? = some l[i - 1]:=List.getElem?_eq_getElem (by omega)
   have e1:=I4 (FX G) (LX G 39 vQ Tryz.f39) ((l,((i:Int),())),((),()))
   have e2:bh l (IntKind.wrap .i64 ((i:Int) - 1))=some l[i - 1]:=by rw [Lf h0 aE hl];exact aD hy
   by_cases hc:kd l[i - 1].1 l[i].1=true
   ·obtain ⟨b,h1,h2⟩:=ih (i+1) (by omega) (by omega) (fun j x y hj k1 k2=>by
     by_cases WJ:j+1=i
     ·have ej:j=i - 1:=by omega
      subst ej
      rw [hy] at k1;rw [show i - 1+1=i by omega,hx] at k2
      cases k1;cases k2;exact hc
     ·exact ha j x y (by omega) k1 k2)
    refine ⟨b,aw (j:=0) (by kernel_rfl) (e1.trans (af (ba aE) (aa e2 (aa (aD hx) (aa (VD hG _ _) (ag (decide_eq_false ?_) ?_)))))),h2⟩
    ·have:=(rr l[i - 1].1 l[i].1).2 hc
     show ¬(lU l[i - 1].1 l[i].1≥0)
     omega
    ·rw [aO aE hl];exact h1
   ·refine ⟨false,aw (j:=0) (by kernel_rfl) (e1.trans (af (ba aE) (aa e2 (aa (aD hx) (aa (VD hG _ _) (af (decide_eq_true ?_) rfl)))))),fun h=>(by cases h),fun h=>absurd (List.pairwise_iff_getElem.1 h.1 (i - 1) i (by omega) aE (by omega)) hc⟩
    have:=mt (rr l[i - 1].1 l[i].1).1 hc
    show lU l[i - 1].1 l[i].1≥0
    omega
 have e0:=adM (FX G) (LX G 39 vQ Tryz.f39) ((l,()),())
 by_cases h0:l.length=0
 ·have hl0:l=[]:=List.eq_nil_of_length_eq_zero h0
  subst hl0
  refine ⟨true,aC (fn:=Tryz.f39) (hG _ _ rfl) (by kernel_rfl) (by kernel_rfl) (e0.trans (aw (j:=0) (by kernel_rfl) ((I4 _ _ _).trans (ag rfl rfl)))),fun _=>⟨List.Pairwise.nil,by simp⟩,fun _=>rfl⟩
 ·obtain ⟨b,h1,h2⟩:=loop (l.length - 1) 1 (by omega) (by omega) (fun j x y hj=>by omega)
  exact ⟨b,aC (fn:=Tryz.f39) (hG _ _ rfl) (by kernel_rfl) (by kernel_rfl) (e0.trans h1),h2⟩
theorem agw(hG:HG G)(d:ai)(hv:d.1.length≤50000000)(he:d.2.length≤50000000):FX G 82 yj ((d,()),())=some ((d.1.map (·.1)++d.2.map (·.1),()),()):=by
 refine aC (fn:=Tryz.f82) (hG _ _ rfl) (by kernel_rfl) (by kernel_rfl) ((ad6 _ _ _).trans ?_)
 have Sr:∀(a:List ID),a.length≤50000000→LX G 82 yj Tryz.f82 vY (aX Tryz.prog 82 1) (((0:Int),()),(((d,()),()),(a,())))=some ((a++d.2.map (·.1),()),()):=by
  intro a ha
  have key:=c8 d.2 (fun i (s:List ID)=>LX G 82 yj Tryz.f82 vY (aX Tryz.prog 82 1) ((i,()),(((d,()),()),(s,())))) (fun r s=>((s++r.map (·.1),()),())) (fun m s=>s.length+m≤100000000)
   (fun s _=>by
    refine aw (j:=1) (by kernel_rfl) ((O8 _ _ _).trans (ag (je _) ?_))
    simp only [List.map_nil,List.append_nil];rfl)
   (fun i x r s hi hx Fi hk ih=>by
    refine aw (j:=1) (by kernel_rfl) ((O8 _ _ _).trans ?_)
    refine af (ba hi) (aa (aD hx) (af (fits (by simp;omega)) ?_))
    rw [aO hi (by omega)]
    have:=ih (s++[x.1]) (by simp;omega)
    rw [show (x.1::([]:List ID))=[x.1] from rfl]
    refine this.trans ?_
    simp)
   a (by omega)
  exact key
 have key:=c8 d.1 (fun i (s:List ID)=>LX G 82 yj Tryz.f82 A2 (aX Tryz.prog 82 0) ((i,()),(((d,()),()),(s,())))) (fun r s=>(((s++r.map (·.1))++d.2.map (·.1),()),())) (fun m s=>s.length+m≤50000000)
  (fun s hs=>by
   refine aw (j:=0) (by kernel_rfl) ((O7 _ _ _).trans (ag (je _) ?_))
   refine (Sr s (by omega)).trans ?_
   simp only [List.map_nil,List.append_nil];rfl)
  (fun i x r s hi hx Fi hk ih=>by
   refine aw (j:=0) (by kernel_rfl) ((O7 _ _ _).trans ?_)
   refine af (ba hi) (aa (aD hx) (af (fits (by simp;omega)) ?_))
   rw [aO hi (by omega)]
   have:=ih (s++[x.1]) (by simp;omega)
   rw [show (x.1::([]:List ID))=[x.1] from rfl]
   refine this.trans ?_
   simp)
  [] (by simpa using hv)
 exact key
theorem aa9(hG:HG G)(l:List ID)(hl:l.length≤1073741824):∃b,FX G 83 uo ((l,()),())=some ((b,()),())∧(b=true↔(l.Pairwise fun a b=>eV a b=true)∧∀x∈l,cK x=true):=by
 have loop:∀(n i:Nat),i+n=l.length→(∀j x,j<i→l[j]? = some x→cK x=true)→(∀j x y,j+1<i→l[j]? = some x→l[j+1]? = some y→eV x y=true) →
   ∃b,LX G 83 uo Tryz.f83 vZ (aX Tryz.prog 83 0) ((l,((i:Int),())),((),()))=some ((b,()),())∧(b=true↔(l.Pairwise fun a b=>eV a b=true)∧∀x∈l,cK x=true):=by
  intro n
  induction n with
  | zero =>
   intro i hi hm ha
   refine ⟨true,aw (j:=0) (by kernel_rfl) ((O9 _ _ _).trans (ag (decide_eq_false (show ¬((i:Int)<((l.length:Nat):Int)) by omega)) rfl)),fun _=>⟨?_,fun x hx => ?_⟩,fun _=>rfl⟩
   ·refine QQ (R:=fun a b:ID=>eV a b=true) (fun a b c=>gk) fun j x y h1 h2=>ha j x y ?_ h1 h2
    have:=(List.getElem?_eq_some_iff.1 h2).1;omega
   ·obtain ⟨j,hj⟩:=List.mem_iff_getElem?.1 hx
    exact hm j x (by have:=(List.getElem?_eq_some_iff.1 hj).1;omega) hj
  | succ n ih =>
   intro i hi hm ha
   have aE:i<l.length:=by omega
   have hx:l[i]? = some l[i]:=List.getElem?_eq_getElem aE
   have e1:=O9 (FX G) (LX G 83 uo Tryz.f83) ((l,((i:Int),())),((),()))
   cases WK:cK l[i] with
   | false=>exact ⟨false,aw (j:=0) (by kernel_rfl) (e1.trans (af (ba aE) (aa (aD hx) (aa (So (hG _ _ rfl) _) (aJ WK rfl))))),fun h=>(by cases h),fun h=>by rw [h.2 _ (List.getElem_mem aE)] at WK;cases WK⟩
   | true =>
    have Nb:∀j x,j<i+1→l[j]? = some x→cK x=true:=fun j x hj k=>by
     by_cases e:j=i
     ·subst e;rw [hx] at k;cases k;exact WK
     ·exact hm j x (by omega) k
    by_cases h0:i=0
    ·obtain ⟨b,h1,h2⟩:=ih (i+1) (by omega) Nb (fun j x y hj=>by omega)
     refine ⟨b,aw (j:=0) (by kernel_rfl) (e1.trans (af (ba aE) (aa (aD hx) (aa (So (hG _ _ rfl) _) (aJ WK (ag rfl (ag (decide_eq_false (show ¬((i:Int) > 0) by omega)) ?_))))))),h2⟩
     rw [aO aE hl];exact h1
    ·have hy:l[i - 1]? = some l[i - 1]:=List.getElem?_eq_getElem (by omega)
     have e2:bh l (IntKind.wrap .i64 ((i:Int) - 1))=some l[i - 1]:=by rw [Lf (by omega) aE hl];exact aD hy
     by_cases hc:eV l[i - 1] l[i]=true
     ·obtain ⟨b,h1,h2⟩:=ih (i+1) (by omega) Nb (fun j x y hj k1 k2=>by
       by_cases WJ:j+1=i
       ·have ej:j=i - 1:=by omega
        subst ej
        rw [hy] at k1;rw [show i - 1+1=i by omega,hx] at k2
        cases k1;cases k2;exact hc
       ·exact ha j x y (by omega) k1 k2)
      refine ⟨b,aw (j:=0) (by kernel_rfl) (e1.trans (af (ba aE) (aa (aD hx) (aa (So (hG _ _ rfl) _) (aJ WK (ag rfl (af (decide_eq_true (show ((i:Int) > 0) by omega)) (aa e2 (aa (aD hx) (aa (VC (hG _ _ rfl) _ _) (ag (decide_eq_false ?_) ?_))))))))))),h2⟩
      ·have:=(rl l[i - 1] l[i]).2 hc
       show ¬(qy l[i - 1] l[i]≥0)
       omega
      ·rw [aO aE hl];exact h1
     ·refine ⟨false,aw (j:=0) (by kernel_rfl) (e1.trans (af (ba aE) (aa (aD hx) (aa (So (hG _ _ rfl) _) (aJ WK (ag rfl (af (decide_eq_true (show ((i:Int) > 0) by omega)) (aa e2 (aa (aD hx) (aa (VC (hG _ _ rfl) _ _) (af (decide_eq_true ?_) rfl))))))))))),fun h=>(by cases h),fun h=>absurd (List.pairwise_iff_getElem.1 h.1 (i - 1) i (by omega) aE (by omega)) hc⟩
      have:=mt (rl l[i - 1] l[i]).1 hc
      show qy l[i - 1] l[i]≥0
      omega
 obtain ⟨b,h1,h2⟩:=loop l.length 0 (by omega) (fun j x hj=>by omega) (fun j x y hj=>by omega)
 exact ⟨b,aC (fn:=Tryz.f83) (hG _ _ rfl) (by kernel_rfl) (by kernel_rfl) ((ad7 _ _ _).trans h1),h2⟩
end Go.Vs
namespace Go.Vs
open Go.Proofs
variable {G:(f:FuncId)→(g:aL)→Option (g.A→Option g.B)}
theorem aba(hG:HG G)(d:ai)(x:ae)(hs:Sm d)(hn:d.1.length≤24):FX G 105 nw ((d,x,()),())=some (((((an d.1).count x:Nat):Int),()),()):=by
 refine aC (fn:=Tryz.f105) (hG _ _ rfl) (by kernel_rfl) (by kernel_rfl) ((Yv _ _ _).trans ?_)
 have inner:∀(v:aj) (i:Nat) (hv:d.1[i]? = some v) (m k acc:Nat) y,k+m=v.2.1.length→acc+m≤100000000000 →
   LX G 105 nw Tryz.f105 rf (aX Tryz.prog 105 0) ((((acc+(v.2.1.drop k).count x:Nat):Int),(((i+1:Nat):Int),())),(((d,()),((x,()),())),()))=some y →
   LX G 105 nw Tryz.f105 oK (aX Tryz.prog 105 1) (((acc:Int),((i:Int),((k:Int),()))),(((d,()),((x,()),())),()))=some y:=by
  intro v i hv m
  have Ni:v.2.1.length≤50000000:=hs.r v (List.mem_of_getElem? hv)
  have hi:i<d.1.length:=(List.getElem?_eq_some_iff.1 hv).1
  induction m with
  | zero =>
   intro k acc y hk ha hy
   refine aw (j:=1) (by kernel_rfl) ((Kl _ _ _).trans ?_)
   refine aa (aD hv) (ag (decide_eq_false (show ¬((k:Int)<((v.2.1.length:Nat):Int)) by omega)) ?_)
   rw [List.drop_eq_nil_of_le (by omega)] at hy
   rw [aO hi (by omega)]
   exact hy
  | succ m ih =>
   intro k acc y hk ha hy
   have aE:k<v.2.1.length:=by omega
   have hx:v.2.1[k]? = some v.2.1[k]:=List.getElem?_eq_getElem aE
   refine aw (j:=1) (by kernel_rfl) ((Kl _ _ _).trans ?_)
   refine aa (aD hv) (af (ba aE) (aa (aD hv) (aa (aD hx) ?_)))
   have hb:=uN v.2.1[k] x
   rw [List.drop_eq_getElem_cons aE,List.count_cons] at hy
   by_cases hc:v.2.1[k]=x
   ·refine af (hb.trans (decide_eq_true hc)) ?_
    have w1:IntKind.wrap .i64 ((acc:Int)+1)=((acc+1:Nat):Int):=by rw [wrap_small (by omega) (by omega)];omega
    show LX G 105 nw Tryz.f105 oK (aX Tryz.prog 105 1) ((IntKind.wrap .i64 ((acc:Int)+1),((i:Int),(IntKind.wrap .i64 ((k:Int)+1),()))),(((d,()),((x,()),())),()))=some y
    rw [w1,aO aE (by omega)]
    refine ih (k+1) (acc+1) y (by omega) (by omega) ?_
    rw [if_pos (by simpa using hc),show acc+(List.count x (v.2.1.drop (k+1))+1)=acc+1+List.count x (v.2.1.drop (k+1)) by omega] at hy
    exact hy
   ·refine ag (hb.trans (decide_eq_false hc)) ?_
    rw [aO aE (by omega)]
    refine ih (k+1) acc y (by omega) (by omega) ?_
    rw [if_neg (by simpa using hc)] at hy
    exact hy
 have outer:∀(m i acc:Nat),i+m=d.1.length→acc≤i * 50000000→LX G 105 nw Tryz.f105 rf (aX Tryz.prog 105 0) (((acc:Int),((i:Int),())),(((d,()),((x,()),())),()))=some ((((acc+(an (d.1.drop i)).count x:Nat):Int),()),()):=by
  intro m
  induction m with
  | zero =>
   intro i acc hi ha
   refine aw (j:=0) (by kernel_rfl) ((Kk _ _ _).trans (ag (decide_eq_false (show ¬((i:Int)<((d.1.length:Nat):Int)) by omega)) ?_))
   rw [List.drop_eq_nil_of_le (by omega)];rfl
  | succ m ih =>
   intro i acc hi ha
   have aE:i<d.1.length:=by omega
   have hx:d.1[i]? = some d.1[i]:=List.getElem?_eq_getElem aE
   have Ni:d.1[i].2.1.length≤50000000:=hs.r _ (List.getElem_mem aE)
   refine aw (j:=0) (by kernel_rfl) ((Kk _ _ _).trans (af (ba aE) ?_))
   have sN:List.count x d.1[i].2.1≤d.1[i].2.1.length:=List.count_le_length
   refine inner d.1[i] i hx d.1[i].2.1.length 0 acc _ (by omega) (by omega) ?_
   rw [List.drop_zero]
   have:=ih (i+1) (acc+List.count x d.1[i].2.1) (by omega) (by omega)
   refine this.trans ?_
   rw [List.drop_eq_getElem_cons aE,im,List.count_append,Nat.add_assoc];rfl
 have:=outer d.1.length 0 0 (by omega) (by omega)
 rw [List.drop_zero,Nat.zero_add] at this
 exact this
structure u7(d:ai):Prop where
 t:∀v∈d.1,b5 v.2.1=v.2.1
 e:∀v∈d.1,∀x∈v.2.1,(aU d.2 x.1).isSome=true∧0≤x.2∧x.2≤1
 c:∀e∈d.2,∀s:Int,s=0∨s=1→(an d.1).count (e.1,s)=1
theorem agx(hG:HG G)(d:ai)(hs:Sm d)(hn:d.1.length≤24):∃b,FX G 84 kD ((d,()),())=some ((b,()),())∧(b=true↔u7 d):=by
 have sR:=hs.e
 have QR:∀(m i:Nat),i+m=d.2.length→(∀v∈d.1,b5 v.2.1=v.2.1)→(∀v∈d.1,∀x∈v.2.1,(aU d.2 x.1).isSome=true∧0≤x.2∧x.2≤1)→(∀j e,j<i→d.2[j]? = some e→∀s:Int,s=0∨s=1→(an d.1).count (e.1,s)=1) →
   ∃b,LX G 84 kD Tryz.f84 v7 (aX Tryz.prog 84 2) (((i:Int),()),(((d,()),()),()))=some ((b,()),())∧(b=true↔u7 d):=by
  intro m
  induction m with
  | zero =>
   intro i hi h1 h2 h3
   refine ⟨true,aw (j:=2) (by kernel_rfl) ((Pd _ _ _).trans (ag (decide_eq_false (show ¬((i:Int)<((d.2.length:Nat):Int)) by omega)) rfl)),fun _=>⟨h1,h2,fun e he s hs => ?_⟩,fun _=>rfl⟩
   obtain ⟨j,hj⟩:=List.mem_iff_getElem?.1 he
   exact h3 j e (by have:=(List.getElem?_eq_some_iff.1 hj).1;omega) hj s hs
  | succ m ih =>
   intro i hi h1 h2 h3
   have aE:i<d.2.length:=by omega
   have hx:d.2[i]? = some d.2[i]:=List.getElem?_eq_getElem aE
   have key:∀(s:Nat),s≤1→∀y,((an d.1).count (d.2[i].1,(s:Int))=1→LX G 84 kD Tryz.f84 ti (aX Tryz.prog 84 3) (((i:Int),(((s+1:Nat):Int),())),(((d,()),()),()))=some y)→((an d.1).count (d.2[i].1,(s:Int))≠1→y=((false,()),())) →
     LX G 84 kD Tryz.f84 ti (aX Tryz.prog 84 3) (((i:Int),((s:Int),())),(((d,()),()),()))=some y:=by
    intro s Em y k1 k2
    refine aw (j:=3) (by kernel_rfl) ((Pe _ _ _).trans ?_)
    refine af (decide_eq_true (show ((s:Int)<2) by omega)) (aa (aD hx) (aa (aba hG d (d.2[i].1,(s:Int)) hs hn) ?_))
    by_cases hc:(an d.1).count (d.2[i].1,(s:Int))=1
    ·refine ag (show ((((an d.1).count (d.2[i].1,(s:Int)):Nat):Int) != 1)=false by rw [hc];rfl) ?_
     have w1:IntKind.wrap .i64 ((s:Int)+1)=((s+1:Nat):Int):=by rw [wrap_small (by omega) (by omega)];omega
     rw [w1];exact k1 hc
    ·rw [k2 hc]
     exact af (show ((((an d.1).count (d.2[i].1,(s:Int)):Nat):Int) != 1)=true by rw [bne_iff_ne];omega) rfl
   have go:∀y,LX G 84 kD Tryz.f84 ti (aX Tryz.prog 84 3) (((i:Int),((0:Int),())),(((d,()),()),()))=some y→LX G 84 kD Tryz.f84 v7 (aX Tryz.prog 84 2) (((i:Int),()),(((d,()),()),()))=some y:=fun y hy =>
    aw (j:=2) (by kernel_rfl) ((Pd _ _ _).trans (af (ba aE) hy))
   by_cases c0:(an d.1).count (d.2[i].1,((0:Nat):Int))=1
   ·by_cases c1:(an d.1).count (d.2[i].1,((1:Nat):Int))=1
    ·obtain ⟨b,k1,k2⟩:=ih (i+1) (by omega) h1 h2 (fun j e hj wW s hs=>by
      by_cases WJ:j=i
      ·subst WJ;rw [hx] at wW;cases wW
       rcases hs with rfl | rfl
       ·exact c0
       ·exact c1
      ·exact h3 j e (by omega) wW s hs)
     refine ⟨b,go _ (key 0 (by omega) _ (fun _=>key 1 (by omega) _ (fun _ => ?_) fun h=>absurd c1 h) fun h=>absurd c0 h),k2⟩
     refine aw (j:=3) (by kernel_rfl) ((Pe _ _ _).trans (ag (decide_eq_false (show ¬((((1+1:Nat):Nat):Int)<2) by omega)) ?_))
     rw [aO aE (by omega)]
     exact k1
    ·exact ⟨false,go _ (key 0 (by omega) _ (fun _=>key 1 (by omega) _ (fun h=>absurd h c1) fun _=>rfl) fun h=>absurd c0 h),fun h=>(by cases h),fun h=>absurd (h.c _ (List.getElem_mem aE) 1 (.inr rfl)) c1⟩
   ·exact ⟨false,go _ (key 0 (by omega) _ (fun h=>absurd h c0) fun _=>rfl),fun h=>(by cases h),fun h=>absurd (h.c _ (List.getElem_mem aE) 0 (.inl rfl)) c0⟩
 have ring:∀(v:aj) (i:Nat) (hv:d.1[i]? = some v) (y:Bool) (P:Prop),(P→LX G 84 kD Tryz.f84 th (aX Tryz.prog 84 0) ((((i+1:Nat):Int),()),(((d,()),()),()))=some ((y,()),()))→(¬P→y=false)→(P↔∀x∈v.2.1,(aU d.2 x.1).isSome=true∧0≤x.2∧x.2≤1) →
   ∀(m k:Nat),k+m=v.2.1.length→(∀j x,j<k→v.2.1[j]? = some x→(aU d.2 x.1).isSome=true∧0≤x.2∧x.2≤1) →
   LX G 84 kD Tryz.f84 v5 (aX Tryz.prog 84 1) (((i:Int),(v.2.1,((k:Int),()))),(((d,()),()),()))=some ((y,()),()):=by
  intro v i hv y P hP hnP hPi m
  have hi:i<d.1.length:=(List.getElem?_eq_some_iff.1 hv).1
  have Ni:v.2.1.length≤50000000:=hs.r v (List.mem_of_getElem? hv)
  induction m with
  | zero =>
   intro k hk hj
   have p:P:=hPi.2 fun x hx=>by
    obtain ⟨j,Xt⟩:=List.mem_iff_getElem?.1 hx
    exact hj j x (by have:=(List.getElem?_eq_some_iff.1 Xt).1;omega) Xt
   refine aw (j:=1) (by kernel_rfl) ((Pc _ _ _).trans (ag (decide_eq_false (show ¬((k:Int)<((v.2.1.length:Nat):Int)) by omega)) ?_))
   rw [aO hi (by omega)]
   exact hP p
  | succ m ih =>
   intro k hk hj
   have aE:k<v.2.1.length:=by omega
   have hx:v.2.1[k]? = some v.2.1[k]:=List.getElem?_eq_getElem aE
   have fB:v.2.1[k]∈v.2.1:=List.getElem_mem aE
   refine aw (j:=1) (by kernel_rfl) ((Pc _ _ _).trans (af (ba aE) (aa (aD hx) (aa (aeH (hG _ _ rfl) d v.2.1[k].1 (by omega)) ?_))))
   have hE:(Cu zE (lV d v.2.1[k].1)).2.1=(aU d.2 v.2.1[k].1).isSome:=yP _ _
   cases yE:(aU d.2 v.2.1[k].1).isSome
   case false =>
    rw [hnP fun p=>by have:=(hPi.1 p _ fB).1;rw [yE] at this;cases this]
    exact aJ (hE.trans yE) rfl
   refine aJ (hE.trans yE) (ag rfl (aa (aD hx) ?_))
   by_cases h0:v.2.1[k].2<0
   ·rw [hnP fun p=>by have:=(hPi.1 p _ fB).2.1;omega]
    exact af (decide_eq_true h0) rfl
   refine ag (decide_eq_false h0) (aa (aD hx) ?_)
   by_cases h1:v.2.1[k].2 > 1
   ·rw [hnP fun p=>by have:=(hPi.1 p _ fB).2.2;omega]
    exact af (decide_eq_true h1) rfl
   refine ag (decide_eq_false h1) ?_
   rw [aO aE (by omega)]
   refine ih (k+1) (by omega) fun j x hjk Xt => ?_
   by_cases wW:j=k
   ·subst wW;rw [hx] at Xt;cases Xt;exact ⟨yE,by omega,by omega⟩
   ·exact hj j x (by omega) Xt
 have QS:∀(m i:Nat),i+m=d.1.length→(∀j v,j<i→d.1[j]? = some v→b5 v.2.1=v.2.1∧∀x∈v.2.1,(aU d.2 x.1).isSome=true∧0≤x.2∧x.2≤1) →
   ∃b,LX G 84 kD Tryz.f84 th (aX Tryz.prog 84 0) (((i:Int),()),(((d,()),()),()))=some ((b,()),())∧(b=true↔u7 d):=by
  intro m
  induction m with
  | zero =>
   intro i hi hj
   have eg:∀v∈d.1,b5 v.2.1=v.2.1∧∀x∈v.2.1,(aU d.2 x.1).isSome=true∧0≤x.2∧x.2≤1:=fun v hv=>by
    obtain ⟨j,Rq⟩:=List.mem_iff_getElem?.1 hv
    exact hj j v (by have:=(List.getElem?_eq_some_iff.1 Rq).1;omega) Rq
   obtain ⟨b,k1,k2⟩:=QR d.2.length 0 (by omega) (fun v hv=>(eg v hv).1) (fun v hv=>(eg v hv).2) (fun j e hj=>by omega)
   exact ⟨b,aw (j:=0) (by kernel_rfl) ((Pb _ _ _).trans (ag (decide_eq_false (show ¬((i:Int)<((d.1.length:Nat):Int)) by omega)) k1)),k2⟩
  | succ m ih =>
   intro i hi hj
   have aE:i<d.1.length:=by omega
   have hx:d.1[i]? = some d.1[i]:=List.getElem?_eq_getElem aE
   have Ni:d.1[i].2.1.length≤50000000:=hs.r _ (List.getElem_mem aE)
   have start:∀y,cond (not (decide (d.1[i].2.1=b5 d.1[i].2.1))) (some ((false,()),())) (LX G 84 kD Tryz.f84 v5 (aX Tryz.prog 84 1) (((i:Int),(d.1[i].2.1,((0:Int),()))),(((d,()),()),())))=some y →
     LX G 84 kD Tryz.f84 th (aX Tryz.prog 84 0) (((i:Int),()),(((d,()),()),()))=some y:=fun y hy =>
    aw (j:=0) (by kernel_rfl) ((Pb _ _ _).trans (af (ba aE) (aa (aD hx) (aa (aeF hG d.1[i].2.1 (by omega)) (aa (ZA hG d.1[i].2.1 (b5 d.1[i].2.1) (by omega)) hy)))))
   by_cases ht:d.1[i].2.1=b5 d.1[i].2.1
   ·by_cases hp:∀x∈d.1[i].2.1,(aU d.2 x.1).isSome=true∧0≤x.2∧x.2≤1
    ·obtain ⟨b,k1,k2⟩:=ih (i+1) (by omega) (fun j v WJ Rq=>by
      by_cases wW:j=i
      ·subst wW;rw [hx] at Rq;cases Rq;exact ⟨ht.symm,hp⟩
      ·exact hj j v (by omega) Rq)
     exact ⟨b,start _ (aJ (decide_eq_true ht) (ag rfl (ring d.1[i] i hx b _ (fun _=>k1) (fun h=>absurd hp h) Iff.rfl d.1[i].2.1.length 0 (by omega) fun j x hj=>by omega))),k2⟩
    ·exact ⟨false,start _ (aJ (decide_eq_true ht) (ag rfl (ring d.1[i] i hx false _ (fun h=>absurd h hp) (fun _=>rfl) Iff.rfl d.1[i].2.1.length 0 (by omega) fun j x hj=>by omega))),fun h=>(by cases h),fun h=>absurd (h.e _ (List.getElem_mem aE)) hp⟩
   ·exact ⟨false,start _ (aJ (decide_eq_false ht) rfl),fun h=>(by cases h),fun h=>absurd (h.t _ (List.getElem_mem aE)).symm ht⟩
 obtain ⟨b,k1,k2⟩:=QS d.1.length 0 (by omega) (fun j v hj=>by omega)
 exact ⟨b,aC (fn:=Tryz.f84) (hG _ _ rfl) (by kernel_rfl) (by kernel_rfl) ((ad8 _ _ _).trans k1),k2⟩
end Go.Vs
namespace Go.Vs
open Go.Proofs
variable {G:(f:FuncId)→(g:aL)→Option (g.A→Option g.B)}
theorem abb{α:Type}(a b:List α):cut (a++b) 0 ((a.length:Nat):Int)=a:=by
 unfold cut
 rw [Int.toNat_natCast,List.take_left];rfl
theorem abc{α:Type}(a b:List α):cut (a++b) ((a.length:Nat):Int) (((a++b).length:Nat):Int)=b:=by
 unfold cut
 rw [Int.toNat_natCast,Int.toNat_natCast,List.take_length,List.drop_left]
theorem wX{x:ae}:∀{l:List ae},l.Nodup→x∈l→l.count x=1
 | a::r,hn,hm=>by
  obtain ⟨h1,h2⟩:=List.nodup_cons.1 hn
  rw [List.count_cons]
  by_cases e:a=x
  ·subst e;rw [List.count_eq_zero.2 h1];simp
  ·rw [if_neg (by simpa using e)]
   exact wX h2 ((List.mem_cons.1 hm).resolve_left fun k=>e k.symm)
structure Lg(d:ai):Prop where
 v:∀v∈d.1,oQ v.2.2.1=true∧nI v.2.2.2=true
 e:∀e∈d.2,oQ e.2.1=true∧nI e.2.2=true
theorem Tj{d:ai}(nv:d.1.length≤24)(ne:d.2.length≤40)(hv:(d.1.map (·.1)).Pairwise fun a b=>eV a b=true)(mv:∀x∈d.1.map (·.1),cK x=true)(he:(d.2.map (·.1)).Pairwise fun a b=>eV a b=true)(me:∀x∈d.2.map (·.1),cK x=true)(hr:u7 d)(hl:Lg d):Wf d:=by
 have sv:bT d.1:=List.pairwise_map.1 hv
 have se:c9 d.2:=List.pairwise_map.1 he
 refine ⟨sv,se,nv,ne,fun v h=>⟨mv _ (List.mem_map.2 ⟨v,h,rfl⟩),(hl.v v h).1,(hl.v v h).2,hr.t v h⟩,fun e h=>⟨me _ (List.mem_map.2 ⟨e,h,rfl⟩),(hl.e e h).1,(hl.e e h).2⟩,?_⟩
 rw [List.perm_iff_count]
 intro x
 by_cases hx:x∈ends d.2
 ·rw [wX (oS se) hx]
  obtain ⟨e,h1,h2,h3⟩:=c5.1 hx
  have:=hr.c e h1 x.2 h3
  rw [h2] at this
  exact this
 ·rw [List.count_eq_zero.2 hx,List.count_eq_zero]
  intro hd
  obtain ⟨v,h1,h2⟩:=aV.1 hd
  obtain ⟨k1,k2,k3⟩:=hr.e v h1 x h2
  obtain ⟨e,hee⟩:=Option.isSome_iff_exists.1 k1
  exact hx (c5.2 ⟨e,Dm hee,qD hee,by omega⟩)
theorem QT{d:ai}(h:Wf d):u7 d:=by
 refine ⟨fun v hv=>(h.gv v hv).t,fun v hv x hx => ?_,fun e he s hs => ?_⟩
 ·obtain ⟨e,h1,h2,h3⟩:=c5.1 (h.pd.mem_iff.1 (aV.2 ⟨v,hv,hx⟩))
  exact ⟨by unfold aU;rw [List.find?_isSome];exact ⟨e,h1,by simpa using h2⟩,by omega,by omega⟩
 ·rw [h.pd.count_eq]
  exact wX (oS h.se) (c5.2 ⟨e,he,rfl,hs⟩)
theorem u9{d:ai}(h:Wf d):((d.1.map (·.1)).Pairwise fun a b=>eV a b=true)∧(∀x∈d.1.map (·.1),cK x=true)∧((d.2.map (·.1)).Pairwise fun a b=>eV a b=true)∧∀x∈d.2.map (·.1),cK x=true:=by
 refine ⟨List.pairwise_map.2 h.sv,fun x hx => ?_,List.pairwise_map.2 h.se,fun x hx => ?_⟩
 ·obtain ⟨v,hv,rfl⟩:=List.mem_map.1 hx;exact (h.gv v hv).i
 ·obtain ⟨v,hv,rfl⟩:=List.mem_map.1 hx;exact (h.ge v hv).i
theorem WL{d:ai}(h:Wf d):Lg d:=⟨fun v hv=>⟨(h.gv v hv).l,(h.gv v hv).a⟩,fun v hv=>⟨(h.ge v hv).l,(h.ge v hv).a⟩⟩
theorem agz(hG:HG G)(d:ai)(hs:Sm d)(tv:∀v∈d.1,v.2.2.1.size≤100000000)(te:∀e∈d.2,e.2.1.size≤100000000):∃r:Int,FX G 63 pJ ((d,()),())=some ((r,()),())∧(r=0↔Wf d):=by
 have e0:=adY (FX G) (LX G 63 pJ Tryz.f63) ((d,()),())
 have fin:∀{y},cC 63 pJ Tryz.f63 (FX G) (LX G 63 pJ Tryz.f63) ((d,()),())=some y→FX G 63 pJ ((d,()),())=some y:=fun {y} h=>aC (fn:=Tryz.f63) (hG _ _ rfl) (by kernel_rfl) (by kernel_rfl) h
 by_cases hn:24<d.1.length
 ·exact ⟨3,fin (e0.trans (af (decide_eq_true (show ((d.1.length:Nat):Int) > 24 by omega)) rfl)),fun h=>(by cases h),fun h=>by have:=h.nv;omega⟩
 by_cases hm:40<d.2.length
 ·exact ⟨3,fin (e0.trans (ag (decide_eq_false (show ¬((d.1.length:Nat):Int) > 24 by omega)) (af (decide_eq_true (show ((d.2.length:Nat):Int) > 40 by omega)) rfl))),fun h=>(by cases h),fun h=>by have:=h.ne;omega⟩
 obtain ⟨ids,mJ⟩:∃ids,ids=d.1.map (·.1)++d.2.map (·.1):=⟨_,rfl⟩
 have l1:(d.1.map (·.1)).length=d.1.length:=List.length_map _
 have l2:(d.2.map (·.1)).length=d.2.length:=List.length_map _
 have mP:ids.length=d.1.length+d.2.length:=by rw [mJ,List.length_append,l1,l2]
 have c1:cut ids 0 ((d.1.length:Nat):Int)=d.1.map (·.1):=by rw [mJ,←l1];exact abb _ _
 have c2:cut ids ((d.1.length:Nat):Int) ((ids.length:Nat):Int)=d.2.map (·.1):=by rw [mJ,←l1];exact abc _ _
 obtain ⟨b1,k1,p1⟩:=aa9 hG (d.1.map (·.1)) (by rw [l1];omega)
 obtain ⟨b2,k2,p2⟩:=aa9 hG (d.2.map (·.1)) (by rw [l2];omega)
 have o1:aT ids.length 0 ((d.1.length:Nat):Int)=true:=by
  unfold aT;rw [mP];simp only [Bool.and_eq_true,decide_eq_true_eq];omega
 have o2:aT ids.length ((d.1.length:Nat):Int) ((ids.length:Nat):Int)=true:=by
  unfold aT;rw [mP];simp only [Bool.and_eq_true,decide_eq_true_eq];omega
 have kc1:FX G 83 uo ((cut ids 0 ((d.1.length:Nat):Int),()),())=some ((b1,()),()):=(congrArg (fun q:List ID=>FX G 83 uo ((q,()),())) c1).trans k1
 have kc2:FX G 83 uo ((cut ids ((d.1.length:Nat):Int) ((ids.length:Nat):Int),()),())=some ((b2,()),()):=(congrArg (fun q:List ID=>FX G 83 uo ((q,()),())) c2).trans k2
 have h82:=agw hG d hs.v hs.e
 rw [←mJ] at h82
 have pre:∀{y},cond (not b1) (some (((10:Int),()),())) (cond (not b2) (some (((10:Int),()),())) ((FX G 84 kD ((d,()),())).bind fun (y4:((Bool×Unit)×Unit))=>cond (not y4.1.1) (some (((10:Int),()),())) (LX G 63 pJ Tryz.f63 oM (aX Tryz.prog 63 0) ((((d.1.length:Nat):Int),(true,(true,((0:Int),())))),(((d,()),()),())))))=some y →
   FX G 63 pJ ((d,()),())=some y:=fun {y} h=>by
  refine fin (e0.trans ?_)
  refine ag (decide_eq_false (show ¬((d.1.length:Nat):Int) > 24 by omega)) (ag (decide_eq_false (show ¬((d.2.length:Nat):Int) > 40 by omega)) ?_)
  refine aa h82 (af o1 ?_)
  refine aa kc1 (af o2 ?_)
  exact aa kc2 h
 cases Mg:b1 with
 | false=>subst Mg;exact ⟨10,pre rfl,fun h=>(by cases h),fun h=>by have:=p1.2 ⟨(u9 h).1,(u9 h).2.1⟩;cases this⟩
 | true =>
 cases vB:b2 with
 | false=>subst Mg;subst vB;exact ⟨10,pre rfl,fun h=>(by cases h),fun h=>by have:=p2.2 ⟨(u9 h).2.2.1,(u9 h).2.2.2⟩;cases this⟩
 | true =>
 subst Mg;subst vB
 obtain ⟨b3,k3,p3⟩:=agx hG d hs (by omega)
 cases TX:b3 with
 | false=>subst TX;exact ⟨10,pre (ag rfl (ag rfl (aa k3 rfl))),fun h=>(by cases h),fun h=>by have:=p3.2 (QT h);cases this⟩
 | true =>
 subst TX
 have QR:∀(m i:Nat) (lb ab:Bool),i+m=d.2.length→(lb=true↔(∀v∈d.1,oQ v.2.2.1=true)∧∀j e,j<i→d.2[j]? = some e→oQ e.2.1=true)→(ab=true↔(∀v∈d.1,nI v.2.2.2=true)∧∀j e,j<i→d.2[j]? = some e→nI e.2.2=true) →
   ∃r:Int,LX G 63 pJ Tryz.f63 oO (aX Tryz.prog 63 1) ((lb,(ab,((i:Int),()))),(((d,()),()),()))=some ((r,()),())∧(r=0↔Lg d):=by
  intro m
  induction m with
  | zero =>
   intro i lb ab hi JC nW
   have c:∀{y},cond (not lb) (some (((4:Int),()),())) (cond (not ab) (some (((1:Int),()),())) (some (((0:Int),()),())))=some y→LX G 63 pJ Tryz.f63 oO (aX Tryz.prog 63 1) ((lb,(ab,((i:Int),()))),(((d,()),()),()))=some y:=fun {y} h =>
    aw (j:=1) (by kernel_rfl) ((O4 _ _ _).trans (ag (decide_eq_false (show ¬((i:Int)<((d.2.length:Nat):Int)) by omega)) h))
   cases lb with
   | false=>exact ⟨4,c rfl,fun h=>(by cases h),fun h=>by have:=JC.2 ⟨fun v hv=>(h.v v hv).1,fun j e _ wW=>(h.e e (List.mem_of_getElem? wW)).1⟩;cases this⟩
   | true =>
    cases ab with
    | false=>exact ⟨1,c rfl,fun h=>(by cases h),fun h=>by have:=nW.2 ⟨fun v hv=>(h.v v hv).2,fun j e _ wW=>(h.e e (List.mem_of_getElem? wW)).2⟩;cases this⟩
    | true =>
     refine ⟨0,c rfl,fun _=>⟨fun v hv=>⟨(JC.1 rfl).1 v hv,(nW.1 rfl).1 v hv⟩,fun e he => ?_⟩,fun _=>rfl⟩
     obtain ⟨j,hj⟩:=List.mem_iff_getElem?.1 he
     have WJ:j<i:=by have:=(List.getElem?_eq_some_iff.1 hj).1;omega
     exact ⟨(JC.1 rfl).2 j e WJ hj,(nW.1 rfl).2 j e WJ hj⟩
  | succ m ih =>
   intro i lb ab hi JC nW
   have aE:i<d.2.length:=by omega
   have hx:d.2[i]? = some d.2[i]:=List.getElem?_eq_getElem aE
   have f28:=ZH (hG 28 yf rfl) d.2[i].2.1 (te _ (List.getElem_mem aE))
   have f29:=ZI (hG 29 As rfl) d.2[i].2.2
   obtain ⟨r,q1,q2⟩:=ih (i+1) (lb&&oQ d.2[i].2.1) (ab&&nI d.2[i].2.2) (by omega)
    ⟨fun h=>by
     simp only [Bool.and_eq_true] at h
     exact ⟨(JC.1 h.1).1,fun j e hj wW=>by
      by_cases k:j=i
      ·subst k;rw [hx] at wW;cases wW;exact h.2
      ·exact (JC.1 h.1).2 j e (by omega) wW⟩,fun h=>dM (JC.2 ⟨h.1,fun j e hj=>h.2 j e (by omega)⟩) (h.2 i _ (by omega) hx)⟩
    ⟨fun h=>by
     simp only [Bool.and_eq_true] at h
     exact ⟨(nW.1 h.1).1,fun j e hj wW=>by
      by_cases k:j=i
      ·subst k;rw [hx] at wW;cases wW;exact h.2
      ·exact (nW.1 h.1).2 j e (by omega) wW⟩,fun h=>dM (nW.2 ⟨h.1,fun j e hj=>h.2 j e (by omega)⟩) (h.2 i _ (by omega) hx)⟩
   refine ⟨r,aw (j:=1) (by kernel_rfl) ((O4 _ _ _).trans (af (ba aE) ?_)),q2⟩
   rw [aO aE (by omega)]
   cases lb<;>cases ab
   ·exact q1
   ·exact ag rfl (af rfl (aa (aD hx) (aa f29 q1)))
   ·exact af rfl (aa (aD hx) (aa f28 (ag rfl q1)))
   ·exact af rfl (aa (aD hx) (aa f28 (af rfl (aa (aD hx) (aa f29 q1)))))
 have QS:∀(m i:Nat) (lb ab:Bool),i+m=d.1.length→(lb=true↔∀j v,j<i→d.1[j]? = some v→oQ v.2.2.1=true)→(ab=true↔∀j v,j<i→d.1[j]? = some v→nI v.2.2.2=true) →
   ∃r:Int,LX G 63 pJ Tryz.f63 oM (aX Tryz.prog 63 0) ((((d.1.length:Nat):Int),(lb,(ab,((i:Int),())))),(((d,()),()),()))=some ((r,()),())∧(r=0↔Lg d):=by
  intro m
  induction m with
  | zero =>
   intro i lb ab hi JC nW
   obtain ⟨r,q1,q2⟩:=QR d.2.length 0 lb ab (by omega)
    ⟨fun h=>⟨fun v hv=>by
     obtain ⟨j,hj⟩:=List.mem_iff_getElem?.1 hv
     exact JC.1 h j v (by have:=(List.getElem?_eq_some_iff.1 hj).1;omega) hj,fun j e hj=>by omega⟩,fun h=>JC.2 fun j v _ Rq=>h.1 v (List.mem_of_getElem? Rq)⟩
    ⟨fun h=>⟨fun v hv=>by
     obtain ⟨j,hj⟩:=List.mem_iff_getElem?.1 hv
     exact nW.1 h j v (by have:=(List.getElem?_eq_some_iff.1 hj).1;omega) hj,fun j e hj=>by omega⟩,fun h=>nW.2 fun j v _ Rq=>h.1 v (List.mem_of_getElem? Rq)⟩
   exact ⟨r,aw (j:=0) (by kernel_rfl) ((O3 _ _ _).trans (ag (decide_eq_false (show ¬((i:Int)<((d.1.length:Nat):Int)) by omega)) q1)),q2⟩
  | succ m ih =>
   intro i lb ab hi JC nW
   have aE:i<d.1.length:=by omega
   have hx:d.1[i]? = some d.1[i]:=List.getElem?_eq_getElem aE
   have f28:=ZH (hG 28 yf rfl) d.1[i].2.2.1 (tv _ (List.getElem_mem aE))
   have f29:=ZI (hG 29 As rfl) d.1[i].2.2.2
   obtain ⟨r,q1,q2⟩:=ih (i+1) (lb&&oQ d.1[i].2.2.1) (ab&&nI d.1[i].2.2.2) (by omega)
    ⟨fun h=>by
     simp only [Bool.and_eq_true] at h
     exact fun j e hj wW=>by
      by_cases k:j=i
      ·subst k;rw [hx] at wW;cases wW;exact h.2
      ·exact JC.1 h.1 j e (by omega) wW,fun h=>dM (JC.2 fun j e hj=>h j e (by omega)) (h i _ (by omega) hx)⟩
    ⟨fun h=>by
     simp only [Bool.and_eq_true] at h
     exact fun j e hj wW=>by
      by_cases k:j=i
      ·subst k;rw [hx] at wW;cases wW;exact h.2
      ·exact nW.1 h.1 j e (by omega) wW,fun h=>dM (nW.2 fun j e hj=>h j e (by omega)) (h i _ (by omega) hx)⟩
   refine ⟨r,aw (j:=0) (by kernel_rfl) ((O3 _ _ _).trans (af (ba aE) ?_)),q2⟩
   rw [aO aE (by omega)]
   cases lb<;>cases ab
   ·exact q1
   ·exact ag rfl (af rfl (aa (aD hx) (aa f29 q1)))
   ·exact af rfl (aa (aD hx) (aa f28 (ag rfl q1)))
   ·exact af rfl (aa (aD hx) (aa f28 (af rfl (aa (aD hx) (aa f29 q1)))))
 obtain ⟨r,q1,q2⟩:=QS d.1.length 0 true true (by omega) ⟨fun _ j v hj=>by omega,fun _=>rfl⟩ ⟨fun _ j v hj=>by omega,fun _=>rfl⟩
 refine ⟨r,pre (ag rfl (ag rfl (aa k3 (ag rfl q1)))),fun h => ?_,fun h=>q2.2 (WL h)⟩
 exact Tj (by omega) (by omega) (p1.1 rfl).1 (p1.1 rfl).2 (p2.1 rfl).1 (p2.1 rfl).2 (p3.1 rfl) (q2.1 h)
theorem agA(hG:HG G)(d:ai)(hs:Sm d)(tv:∀v∈d.1,v.2.2.1.size≤100000000)(te:∀e∈d.2,e.2.1.size≤100000000):∃r:Int,FX G 40 yg ((d,()),())=some ((r,()),())∧(r=0↔Wf d∧bS d=0):=by
 obtain ⟨r,k1,k2⟩:=agz hG d hs tv te
 have e0:=adN (FX G) (LX G 40 yg Tryz.f40) ((d,()),())
 have fin:∀{y},cC 40 yg Tryz.f40 (FX G) (LX G 40 yg Tryz.f40) ((d,()),())=some y→FX G 40 yg ((d,()),())=some y:=fun {y} h=>aC (fn:=Tryz.f40) (hG _ _ rfl) (by kernel_rfl) (by kernel_rfl) h
 by_cases hr:r=0
 ·have hw:=k2.1 hr
  have bc:=hw.ne
  by_cases hg:bS d=0
  ·exact ⟨0,fin (e0.trans (aa k1 (ag (by simp [hr]) (aa (ZG hG d hs (by omega)) (ag (by simp [hg]) rfl))))),fun _=>⟨hw,hg⟩,fun _=>rfl⟩
  ·exact ⟨11,fin (e0.trans (aa k1 (ag (by simp [hr]) (aa (ZG hG d hs (by omega)) (af (by simp [hg]) rfl))))),fun h=>(by cases h),fun h=>absurd h.2 hg⟩
 ·exact ⟨r,fin (e0.trans (aa k1 (af (by simp [hr]) rfl))),fun h=>absurd h hr,fun h=>k2.2 h.1⟩
end Go.Vs
