/- Edges cut and split, vertices smoothed: what the program computes; EditSplits answers true, of data. -/
import Derived.Test.YtpldhjjpeldkaaaGreatFormed
import Derived.Test.YtpldhjjpeldkaaaGreatPlaces

set_option linter.unusedVariables false
set_option linter.unusedSimpArgs false
namespace Go.Vs
open Go.Proofs
variable {G : (f : FuncId) → (g : Sig) → Option (g.A → Option g.B)}
theorem fx155 (hG : ∀ f g, G f g = none) (v : GoneT) (x : Dart) : FX G 155 sg155 ((v, x, ()), ()) = some ((ordD v.1 x, ()), ()) := by
  refine fx_of (fn := Tryz.f155) (hG _ _) (by kernel_rfl) (by kernel_rfl) ((nf155 _ _ _).trans ?_)
  exact bind_of (fx142 hG v.1 x) rfl
/-- How many there are ahead of a name. -/
def cntG (l : List GoneT) (x : Dart) : Nat := l.countP fun v => ltD v.1 x
theorem cntG_le (l : List GoneT) (x : Dart) : cntG l x ≤ l.length := List.countP_le_length
theorem cntG_none {l : List GoneT} {x : Dart} (h : ∀ v ∈ l, ltD v.1 x = false) : cntG l x = 0 := by
  unfold cntG; rw [List.countP_eq_zero]; intro v hv; simp [h v hv]
theorem cntG_spec {x : Dart} : ∀ {l : List GoneT}, SortG l → ∀ (k : Nat) (v : GoneT), l[k]? = some v → (ltD v.1 x = true ↔ k < cntG l x)
  | [], _, k, v, h => by simp at h
  | w :: r, hs, k, v, h => by
    have hw : ∀ {u : GoneT}, u ∈ r → ltD w.1 u.1 = true := fun {u} hu => List.rel_of_pairwise_cons hs hu
    have hr : SortG r := hs.of_cons
    by_cases hlt : ltD w.1 x = true
    · have e : cntG (w :: r) x = cntG r x + 1 := by unfold cntG; rw [List.countP_cons_of_pos (by simpa using hlt)]
      cases k with
      | zero => simp at h; subst h; simp [hlt, e]
      | succ k => have := cntG_spec (x := x) hr k v (by simpa using h); rw [this, e]; omega
    · have hn : ∀ u ∈ w :: r, ltD u.1 x = false := fun u hu => by
        rcases List.mem_cons.1 hu with rfl | hu
        · simpa using hlt
        · rw [Bool.eq_false_iff]; intro h2; exact hlt (ltD_trans (hw hu) h2)
      rw [cntG_none hn, hn v (List.mem_of_getElem? h)]
      simp
theorem lx156154 (hG : ∀ f g, G f g = none) (l : List GoneT) (x : Dart) (hs : SortG l) (hl : l.length ≤ 50000000) : ∀ (n i j : Nat), j - i ≤ n → i ≤ cntG l x → cntG l x ≤ j → j ≤ l.length →
    LX G 156154 sg156154 Tryz.f154 sh156154_0 (seg Tryz.prog 154 0) ((l, (((l.length : Nat) : Int), ((i : Int), ((j : Int), ())))), (((x, ()), ()), ())) = some (((((cntG l x : Nat) : Int), (decide ((l[cntG l x]?).map (·.1) = some x), ())) : Int × (Bool × Unit)), ()) := by
  have hcl := cntG_le l x
  have fin : ∀ (i j : Nat), ¬ (i < j) → i ≤ cntG l x → cntG l x ≤ j → LX G 156154 sg156154 Tryz.f154 sh156154_0 (seg Tryz.prog 154 0) ((l, (((l.length : Nat) : Int), ((i : Int), ((j : Int), ())))), (((x, ()), ()), ())) = some (((((cntG l x : Nat) : Int), (decide ((l[cntG l x]?).map (·.1) = some x), ())) : Int × (Bool × Unit)), ()) := fun i j hij h1 h2 => by
    have hi : i = cntG l x := by omega
    subst hi
    refine lx_of (j := 0) (by kernel_rfl) ((nl156154_0 _ _ _).trans ?_)
    refine cond_F (decide_eq_false (show ¬ (((cntG l x : Nat) : Int) < (j : Int)) by omega)) ?_
    by_cases hc : cntG l x < l.length
    · have hx : l[cntG l x]? = some l[cntG l x] := List.getElem?_eq_getElem hc
      refine cond_T (lt_up hc) ?_
      refine bind_of (getI_of hx) ?_
      refine bind_of (fx155 hG l[cntG l x] x) ?_
      refine congrArg (fun b : Bool => some ((((cntG l x : Nat) : Int), (b, ())), ())) ?_
      rw [hx]
      unfold ordD
      by_cases he : l[cntG l x].1 = x
      · simp [he]
      · simp [he]; split <;> simp
    · refine cond_F (decide_eq_false (show ¬ (((cntG l x : Nat) : Int) < ((l.length : Nat) : Int)) by omega)) ?_
      refine congrArg (fun b : Bool => some ((((cntG l x : Nat) : Int), (b, ())), ())) ?_
      rw [List.getElem?_eq_none (by omega)]; simp
  intro n
  induction n with
  | zero => intro i j hij h1 h2 h3; exact fin i j (by omega) h1 h2
  | succ n ih =>
    intro i j hij h1 h2 h3
    by_cases hlt : i < j
    case neg => exact fin i j hlt h1 h2
    refine lx_of (j := 0) (by kernel_rfl) ((nl156154_0 _ _ _).trans ?_)
    refine cond_T (decide_eq_true (show ((i : Int) < (j : Int)) by omega)) ?_
    refine cond_F rfl ?_
    have hm := mid_eq (i := i) (j := j) (by omega) (by omega)
    have hh : (i + j) / 2 < l.length := by omega
    have hx : l[(i + j) / 2]? = some l[(i + j) / 2] := List.getElem?_eq_getElem hh
    have hsp := cntG_spec (x := x) hs ((i + j) / 2) _ hx
    refine bind_of (show getI l (IntKind.wrap .i64 (shrI .u64 (IntKind.wrap .u64 (IntKind.wrap .i64 ((i : Int) + (j : Int)))) (1 : Int))) = some l[(i + j) / 2] by rw [hm]; exact getI_of hx) ?_
    refine bind_of (fx155 hG l[(i + j) / 2] x) ?_
    by_cases ho : ltD l[(i + j) / 2].1 x = true
    · refine cond_T (decide_eq_true ((ordD_lt _ _).2 ho)) ?_
      have hc := hsp.1 ho
      have hw : IntKind.wrap .i64 (IntKind.wrap .i64 (shrI .u64 (IntKind.wrap .u64 (IntKind.wrap .i64 ((i : Int) + (j : Int)))) (1 : Int)) + 1) = (((i + j) / 2 + 1 : Nat) : Int) := by
        rw [hm]; exact wrap_up hh (by omega)
      have := ih ((i + j) / 2 + 1) j (by omega) (by omega) h2 h3
      rw [← hw] at this
      exact this
    · refine cond_F (decide_eq_false (fun h => ho ((ordD_lt _ _).1 h))) ?_
      have hc : ¬ (i + j) / 2 < cntG l x := fun h => ho (hsp.2 h)
      have := ih i ((i + j) / 2) (by omega) h1 (by omega) (by omega)
      rw [← hm] at this
      exact this
theorem fx156154 (hG : ∀ f g, G f g = none) (l : List GoneT) (x : Dart) (hs : SortG l) (hl : l.length ≤ 50000000) :
    FX G 156154 sg156154 ((l, x, ()), ()) = some (((((cntG l x : Nat) : Int), (decide ((l[cntG l x]?).map (·.1) = some x), ())) : Int × (Bool × Unit)), ()) := by
  refine fx_of (fn := Tryz.f154) (hG _ _) (by kernel_rfl) (by kernel_rfl) ((nf156154 _ _ _).trans ?_)
  exact lx156154 hG l x hs hl l.length 0 l.length (by omega) (by omega) (cntG_le l x) (Nat.le_refl _)
theorem addG_cnt (g : GoneT) : ∀ {l : List GoneT}, SortG l → addG g l = if (l[cntG l g.1]?).map (·.1) = some g.1 then l.set (cntG l g.1) g else l.take (cntG l g.1) ++ (g :: l.drop (cntG l g.1))
  | [], _ => rfl
  | w :: r, hs => by
    have hw : ∀ {u : GoneT}, u ∈ r → ltD w.1 u.1 = true := fun {u} hu => List.rel_of_pairwise_cons hs hu
    have hr : SortG r := List.Pairwise.of_cons hs
    by_cases hlt : ltD w.1 g.1 = true
    · have e : cntG (w :: r) g.1 = cntG r g.1 + 1 := by unfold cntG; rw [List.countP_cons_of_pos (by simpa using hlt)]
      have hne : w.1 ≠ g.1 := fun k => by rw [k, ltD_irrefl] at hlt; cases hlt
      have hno : ¬ ordD g.1 w.1 ≤ 0 := fun k => by
        rcases ordD_le.1 k with k | k
        · exact hne k.symm
        · have := ltD_trans hlt k; rw [ltD_irrefl] at this; cases this
      have ih := addG_cnt g hr
      rw [e, addG, if_neg hno, if_pos hne, ih]
      simp only [List.getElem?_cons_succ, List.set_cons_succ, List.take_succ_cons, List.drop_succ_cons, List.cons_append]
      split <;> rfl
    · have hn : ∀ u ∈ w :: r, ltD u.1 g.1 = false := fun u hu => by
        rcases List.mem_cons.1 hu with rfl | hu
        · simpa using hlt
        · rw [Bool.eq_false_iff]; intro h2; exact hlt (ltD_trans (hw hu) h2)
      rw [cntG_none hn]
      by_cases he : w.1 = g.1
      · have hyes : ordD g.1 w.1 ≤ 0 := ordD_le.2 (.inl he.symm)
        have h1 : fltG g (w :: r) = r := by
          have : fltG g (w :: r) = fltG g r := by unfold fltG; rw [List.filter_cons_of_neg (by simp [he])]
          rw [this]
          exact fltG_none (fun q hq k => by have := hw hq; rw [k, he, ltD_irrefl] at this; cases this)
        rw [addG, if_pos hyes, h1, if_pos (by simp [he])]; rfl
      · have hgt : ltD g.1 w.1 = true := ltD_total (by simpa using hlt) he
        have hyes : ordD g.1 w.1 ≤ 0 := ordD_le.2 (.inr hgt)
        have h1 : fltG g (w :: r) = w :: r := fltG_none (fun q hq k => by
          rcases List.mem_cons.1 hq with rfl | hq
          · exact he k
          · have := ltD_trans hgt (hw hq); rw [k, ltD_irrefl] at this; cases this)
        rw [addG, if_pos hyes, h1, if_neg (by simp [he])]; rfl
theorem findG_cnt {x : Dart} : ∀ {l : List GoneT}, SortG l → (findG l x).isSome = decide ((l[cntG l x]?).map (·.1) = some x)
  | [], _ => rfl
  | w :: r, hs => by
    have hw : ∀ {u : GoneT}, u ∈ r → ltD w.1 u.1 = true := fun {u} hu => List.rel_of_pairwise_cons hs hu
    have hr : SortG r := List.Pairwise.of_cons hs
    rw [findG_cons]
    by_cases hlt : ltD w.1 x = true
    · have e : cntG (w :: r) x = cntG r x + 1 := by unfold cntG; rw [List.countP_cons_of_pos (by simpa using hlt)]
      have hne : w.1 ≠ x := fun k => by rw [k, ltD_irrefl] at hlt; cases hlt
      rw [e, if_neg hne, findG_cnt hr, List.getElem?_cons_succ]
    · have hn : ∀ u ∈ w :: r, ltD u.1 x = false := fun u hu => by
        rcases List.mem_cons.1 hu with rfl | hu
        · simpa using hlt
        · rw [Bool.eq_false_iff]; intro h2; exact hlt (ltD_trans (hw hu) h2)
      rw [cntG_none hn]
      by_cases he : w.1 = x
      · simp [he]
      · have hgt : ltD x w.1 = true := ltD_total (by simpa using hlt) he
        have : findG r x = none := by
          unfold findG
          have : (List.find? (fun q => decide (q.1 = x)) r) = none := by
            rw [List.find?_eq_none]; intro q hq k
            have k : q.1 = x := by simpa using k
            have := ltD_trans hgt (hw hq); rw [k, ltD_irrefl] at this; cases this
          rw [this]; rfl
        rw [if_neg he, this]; simp [he]
theorem fx139 (hG : ∀ f g, G f g = none) (l : List GoneT) (g : GoneT) (hs : SortG l) (hl : l.length ≤ 50000000) : FX G 139 sg139 ((l, g, ()), ()) = some ((addGone l g, ()), ()) := by
  refine fx_of (fn := Tryz.f139) (hG _ _) (by kernel_rfl) (by kernel_rfl) ((nf139 _ _ _).trans ?_)
  refine bind_of (fx156154 hG l g.1 hs hl) ?_
  refine bind_of (fx61 (hG _ _) l hl) ?_
  unfold addGone
  rw [findG_cnt hs, addG_cnt g hs]
  have hc : cntG l g.1 ≤ l.length := cntG_le l g.1
  by_cases h : (l[cntG l g.1]?).map (·.1) = some g.1
  · rw [decide_eq_true h, if_neg (fun k => by cases k.1), if_pos h]
    refine cond_T rfl ?_
    obtain ⟨u, hu, _⟩ : ∃ u, l[cntG l g.1]? = some u ∧ u.1 = g.1 := by
      cases hq : l[cntG l g.1]? with
      | none => rw [hq] at h; cases h
      | some u => rw [hq] at h; exact ⟨u, rfl, by simpa using h⟩
    have hlt := (List.getElem?_eq_some_iff.1 hu).1
    refine cond_T (both_T (ge_up _) (lt_up hlt)) ?_
    exact bind_of hu rfl
  · rw [decide_eq_false h, if_neg h]
    refine cond_F rfl ?_
    by_cases h4 : 400 ≤ l.length
    · rw [if_pos ⟨rfl, h4⟩]
      exact cond_F (decide_eq_false (show ¬ ((l.length : Nat) : Int) < 400 by omega)) rfl
    · rw [if_neg (fun k => h4 k.2)]
      refine cond_T (decide_eq_true (show ((l.length : Nat) : Int) < 400 by omega)) ?_
      have hok : insOk l ((cntG l g.1 : Nat) : Int) [g] = true := by
        unfold insOk
        rw [decide_eq_true (show (0 : Int) ≤ ((cntG l g.1 : Nat) : Int) by omega), decide_eq_true (show ((cntG l g.1 : Nat) : Int) ≤ ((l.length : Nat) : Int) by omega)]
        rw [fits (by simp; omega)]; rfl
      refine cond_T hok ?_
      have e : insRow l ((cntG l g.1 : Nat) : Int) [g] = l.take (cntG l g.1) ++ (g :: l.drop (cntG l g.1)) := by unfold insRow; simp
      exact congrArg (fun r : List GoneT => some ((r, ()), ())) e
theorem fx116 (hG : ∀ f g, G f g = none) (w : WorkT) (x to : Dart) (hs : SortG w.2.2.1) (hl : w.2.2.1.length ≤ 50000000) : FX G 116 sg116 ((x, to, ()), (w, ())) = some ((), ((w.1, (w.2.1, (addGone w.2.2.1 (x, to), ()))), ())) := by
  refine fx_of (fn := Tryz.f116) (hG _ _) (by kernel_rfl) (by kernel_rfl) ((nf116 _ _ _).trans ?_)
  exact bind_of (fx139 hG w.2.2.1 (x, to) hs hl) rfl

/-! ### Where a dart stands -/
theorem fx118 (hG : ∀ f g, G f g = none) (w : WorkT) (x : Dart) (hw : Rw w.1) (hl : w.1.length ≤ 50000000) (hr : ∀ v ∈ w.1, v.2.1.length ≤ 50000000) {k : Nat} {v : Vert} (hk : w.1[k]? = some v) (hx : x ∈ v.2.1) :
    FX G 118 sg118 ((x, ()), (w, ())) = some (((some ((⟨0, by decide⟩ : Fin 1), k)), ()), (w, ())) := by
  refine fx_of (fn := Tryz.f118) (hG _ _) (by kernel_rfl) (by kernel_rfl) ((nf118 _ _ _).trans ?_)
  have hkl := (List.getElem?_eq_some_iff.1 hk).1
  have loop : ∀ (n i : Nat), i + n = k → LX G 118 sg118 Tryz.f118 sh118_0 (seg Tryz.prog 118 0) ((((w.1.length : Nat) : Int), ((i : Int), ())), ((w, ((x, ()), ())), ())) = some (((some ((⟨0, by decide⟩ : Fin 1), k)), ()), (w, ())) := by
    intro n
    induction n with
    | zero =>
      intro i hi
      have hi : i = k := by omega
      subst hi
      refine lx_of (j := 0) (by kernel_rfl) ((nl118_0 _ _ _).trans ?_)
      refine cond_T (lt_up hkl) (cond_T (both_T (ge_up _) (lt_up hkl)) (bind_of hk ?_))
      refine bind_of (fx133 hG v.2.1 x (by have := hr v (List.mem_of_getElem? hk); omega)) ?_
      exact cond_T (decide_eq_true hx) rfl
    | succ n ih =>
      intro i hi
      have hil : i < w.1.length := by omega
      have hu : w.1[i]? = some w.1[i] := List.getElem?_eq_getElem hil
      have hnx : x ∉ w.1[i].2.1 := fun hxi => by
        have h1 : w.1[i] = v := hw.one (List.mem_of_getElem? hk) (List.getElem_mem hil) hx hxi
        have h2 := cntV_only hw.s hk rfl
        have h3 := cntV_only hw.s (x := v.1) hu (by rw [h1])
        omega
      refine lx_of (j := 0) (by kernel_rfl) ((nl118_0 _ _ _).trans ?_)
      refine cond_T (lt_up hil) (cond_T (both_T (ge_up _) (lt_up hil)) (bind_of hu ?_))
      refine bind_of (fx133 hG w.1[i].2.1 x (by have := hr _ (List.getElem_mem hil); omega)) ?_
      refine cond_F (decide_eq_false hnx) ?_
      have := ih (i + 1) (by omega)
      rw [← wrap_up hil (by omega)] at this
      exact this
  exact loop k 0 (by omega)
theorem set_re {l : List Vert} {k : Nat} {v : Vert} (hs : SortV l) (hk : l[k]? = some v) (r : List Dart) : l.set k (v.1, (r, v.2.2)) = l.map (reR v.1 r) := by
  have h := findV_of hs (List.mem_of_getElem? hk)
  rw [cntV_only hs hk rfl]
  refine (mapV_cnt hs h (reR v.1 r) (fun u => (u.1, (r, u.2.2))) (fun u hu => ?_) (fun u hu => ?_)).symm
  · unfold reR; rw [if_pos hu]
  · unfold reR; rw [if_neg hu]
theorem at_place {l : List Vert} {x : Dart} (h : x ∈ darts l) : ∃ (k : Nat) (v : Vert), l[k]? = some v ∧ x ∈ v.2.1 ∧ v ∈ l := by
  obtain ⟨v, hv, hx⟩ := mem_darts.1 h
  obtain ⟨k, hk, he⟩ := List.getElem_of_mem hv
  exact ⟨k, v, by rw [List.getElem?_eq_getElem hk, he], hx, hv⟩
/-- Small rows of vertices. -/
structure Sv (l : List Vert) : Prop where
  n : l.length ≤ 50000000
  r : ∀ v ∈ l, v.2.1.length ≤ 50000000
theorem xor_side {n : Int} (h : n = 0 ∨ n = 1) : bitsI .xor .i64 n 1 = IntKind.wrap .i64 (1 - n) := by
  rcases h with rfl | rfl <;> decide
theorem fx122 (hG : G 122 sg122 = none) (x : Dart) (h : x.2 = 0 ∨ x.2 = 1) : FX G 122 sg122 ((x, ()), ()) = some ((otherD x, ()), ()) := by
  refine fx_of (fn := Tryz.f122) hG (by kernel_rfl) (by kernel_rfl) ((nf122 _ _ _).trans ?_)
  exact congrArg (fun n : Int => some ((((x.1, n) : Dart), ()), ())) (xor_side h)

/-! ### Ahead -/
theorem aheadD_of {d : Diag} (h : Rw d.1) {v : Vert} {x : Dart} (hv : v ∈ d.1) (hx : x ∈ v.2.1) : aheadD d x = if (prevR v.2.1 x).1 = x.1 then (if (prevR v.2.1 (prevR v.2.1 x)).1 = x.1 then zD else prevR v.2.1 (prevR v.2.1 x)) else prevR v.2.1 x := by
  unfold aheadD
  have e : ringAt d ((atD d x).getD zI) = v.2.1 := by
    unfold atD; rw [atV_of h hv hx]; exact ringAt_of h.s hv
  simp only [e]
  by_cases h1 : (prevR v.2.1 x).1 = x.1
  · simp only [if_pos h1]
  · simp only [if_neg h1]
theorem fx117 (hG : ∀ f g, G f g = none) (w : WorkT) (x : Dart) (hw : Rw w.1) (hs : Sv w.1) (hx : x ∈ darts w.1) (e : List EdgeT) : FX G 117 sg117 ((x, ()), (w, ())) = some ((aheadD (w.1, e) x, ()), (w, ())) := by
  obtain ⟨k, v, hk, hxv, hv⟩ := at_place hx
  have hrl := hs.r v hv
  refine fx_of (fn := Tryz.f117) (hG _ _) (by kernel_rfl) (by kernel_rfl) ((nf117 _ _ _).trans ?_)
  rw [aheadD_of (d := (w.1, e)) hw hv hxv]
  have prev : ∀ y : Dart, FX G 140 sg140 ((v.2.1, y, ()), ()) = some (((prevR v.2.1 y), ((orZ (stepD v.2.1 y (v.2.1.length - 1))).2)), ()) := fun y => by
    refine (fx140 hG v.2.1 y (by omega)).trans ?_
    have : (orZ (stepD v.2.1 y (v.2.1.length - 1))).1 = prevR v.2.1 y := orZ_fst _
    rw [← this]
  have edge : ∀ y : Dart, ((y.1.1 == x.1.1) && (y.1.2 == x.1.2)) = decide (y.1 = x.1) := fun y => beqI y.1 x.1
  refine lx_of (j := 0) (by kernel_rfl) ((nl117_0 _ _ _).trans ?_)
  refine cond_T rfl (bind_of (fx118 hG w x hw hs.n hs.r hk hxv) ?_)
  refine opt_S rfl (cond_T rfl (bind_of hk ?_))
  refine bind_of (prev x) ?_
  by_cases h1 : (prevR v.2.1 x).1 = x.1
  · rw [if_pos h1]
    refine cond_not_of ((edge _).trans (decide_eq_true h1)) ?_
    refine lx_of (j := 0) (by kernel_rfl) ((nl117_0 _ _ _).trans ?_)
    refine cond_T rfl (bind_of (fx118 hG w x hw hs.n hs.r hk hxv) ?_)
    refine opt_S rfl (cond_T rfl (bind_of hk ?_))
    refine bind_of (prev (prevR v.2.1 x)) ?_
    by_cases h2 : (prevR v.2.1 (prevR v.2.1 x)).1 = x.1
    · rw [if_pos h2]
      refine cond_not_of ((edge _).trans (decide_eq_true h2)) ?_
      refine lx_of (j := 0) (by kernel_rfl) ((nl117_0 _ _ _).trans ?_)
      exact cond_F rfl rfl
    · rw [if_neg h2]
      exact cond_not_of ((edge _).trans (decide_eq_false h2)) rfl
  · rw [if_neg h1]
    exact cond_not_of ((edge _).trans (decide_eq_false h1)) rfl

/-! ### An edge taken away -/
theorem del_edge {l : List EdgeT} {x : ID} (hs : SortE l) (h : (findE l x).isSome = true) (hl : l.length ≤ 50000000) :
    delOk l ((cntE l x : Nat) : Int) (IntKind.wrap .i64 (((cntE l x : Nat) : Int) + 1)) = true ∧ delRow l ((cntE l x : Nat) : Int) (IntKind.wrap .i64 (((cntE l x : Nat) : Int) + 1)) = dropE l x := by
  obtain ⟨e, he⟩ := Option.isSome_iff_exists.1 h
  have hlt := (List.getElem?_eq_some_iff.1 (get_cntE hs he)).1
  have hw : IntKind.wrap .i64 (((cntE l x : Nat) : Int) + 1) = ((cntE l x + 1 : Nat) : Int) := wrap_up hlt (by omega)
  constructor
  · rw [hw]
    unfold delOk
    rw [decide_eq_true (show (0 : Int) ≤ ((cntE l x : Nat) : Int) by omega), decide_eq_true (show ((cntE l x : Nat) : Int) < ((cntE l x + 1 : Nat) : Int) by omega), decide_eq_true (show ((cntE l x + 1 : Nat) : Int) ≤ ((l.length : Nat) : Int) by omega), fits (by omega)]; rfl
  · rw [hw, dropE_cnt hs h]
    unfold delRow; simp only [Int.toNat_natCast]
theorem del_vert {l : List Vert} {x : ID} (hs : SortV l) (h : (findV l x).isSome = true) (hl : l.length ≤ 50000000) :
    delOk l ((cntV l x : Nat) : Int) (IntKind.wrap .i64 (((cntV l x : Nat) : Int) + 1)) = true ∧ delRow l ((cntV l x : Nat) : Int) (IntKind.wrap .i64 (((cntV l x : Nat) : Int) + 1)) = dropV l x := by
  obtain ⟨e, he⟩ := Option.isSome_iff_exists.1 h
  have hlt := (List.getElem?_eq_some_iff.1 (get_cntV hs he)).1
  have hw : IntKind.wrap .i64 (((cntV l x : Nat) : Int) + 1) = ((cntV l x + 1 : Nat) : Int) := wrap_up hlt (by omega)
  constructor
  · rw [hw]
    unfold delOk
    rw [decide_eq_true (show (0 : Int) ≤ ((cntV l x : Nat) : Int) by omega), decide_eq_true (show ((cntV l x : Nat) : Int) < ((cntV l x + 1 : Nat) : Int) by omega), decide_eq_true (show ((cntV l x + 1 : Nat) : Int) ≤ ((l.length : Nat) : Int) by omega), fits (by omega)]; rfl
  · rw [hw, dropV_cnt hs h]
    unfold delRow; simp only [Int.toNat_natCast]
theorem Sv.re {l : List Vert} (h : Sv l) (x : ID) {r : List Dart} (hr : r.length ≤ 50000000) : Sv (l.map (reR x r)) := by
  refine ⟨by simp; exact h.n, fun w hw => ?_⟩
  obtain ⟨u, hu, rfl⟩ := List.mem_map.1 hw
  unfold reR
  split
  · exact hr
  · exact h.r u hu
theorem remR_length_le {row : List Dart} (d : Dart) : (remR row d).length ≤ row.length := by
  unfold remR; rw [turn_length]; exact List.length_filter_le _ _
/-- A round of the loop that takes darts out of their rings. -/
theorem cut_one {w : WorkT} {x : Dart} (hw : Rw w.1) {k : Nat} {v : Vert} (hk : w.1[k]? = some v) (hx : x ∈ v.2.1) (e : List EdgeT) : w.1.set k (v.1, (remR v.2.1 x, v.2.2)) = (removed (w.1, e) x).1 := by
  rw [removed_of (d := (w.1, e)) hw (List.mem_of_getElem? hk) hx]
  exact set_re hw.s hk _
theorem fx93 (hG : ∀ f g, G f g = none) (s : StateT) (o : OpT) (h : WfS s) (hs : Sv s.1.1) :
    ∃ (e : Int) (w : WorkT), FX G 93 sg93 ((o, ()), (workOf s, ())) = some ((e, ()), (w, ())) ∧ doneP e w = cutR s o := by
  have hne := h.d.ne
  unfold cutR
  cases hf : (findE s.1.2 (oId o)).isSome with
  | false =>
    refine ⟨13, workOf s, ?_, ?_⟩
    · refine fx_of (fn := Tryz.f93) (hG _ _) (by kernel_rfl) (by kernel_rfl) ((nf93 _ _ _).trans ?_)
      refine bind_of (fx115 hG (workOf s) (oId o) h.d.se (by show s.1.2.length ≤ _; omega)) ?_
      exact cond_not_of ((thereE_iff (l := s.1.2) h.d.se).trans hf) rfl
    · rw [if_pos (show (edge s.1 (oId o)).isSome = false from hf)]; rfl
  | true =>
    rw [if_neg (show ¬ (edge s.1 (oId o)).isSome = false by show ¬ (findE s.1.2 (oId o)).isSome = false; rw [hf]; simp)]
    obtain ⟨x, hx⟩ : ∃ x : Dart, x = (oId o, 0) := ⟨_, rfl⟩
    obtain ⟨y, hy⟩ : ∃ y : Dart, y = (oId o, 1) := ⟨_, rfl⟩
    have hxd : x ∈ darts s.1.1 := by rw [hx]; exact h.d.is_end hf (.inl rfl)
    have hyd : y ∈ darts s.1.1 := by rw [hy]; exact h.d.is_end hf (.inr rfl)
    have g1 := addGone_ok h.g h.n (x, aheadD s.1 x)
    have hn := h.n
    obtain ⟨p1, q1⟩ := removed_perm h.d.rw hxd
    have hyd1 : y ∈ darts (removed s.1 x).1 := by
      rcases List.mem_cons.1 (p1.mem_iff.1 hyd) with k | k
      · rw [hx, hy] at k; cases k
      · exact k
    have hgv := removed_gv (removed_gv h.d.gv x) y
    refine ⟨0, ((removed (removed s.1 x) y).1, (dropE s.1.2 (oId o), (addGone (addGone s.2 (x, aheadD s.1 x)) (y, aheadD s.1 y), ()))), ?_, ?_⟩
    · refine fx_of (fn := Tryz.f93) (hG _ _) (by kernel_rfl) (by kernel_rfl) ((nf93 _ _ _).trans ?_)
      refine bind_of (fx115 hG (workOf s) (oId o) h.d.se (by show s.1.2.length ≤ _; omega)) ?_
      refine cond_not_of ((thereE_iff (l := s.1.2) h.d.se).trans hf) (cond_F rfl ?_)
      have h111 : FX G 111 sg111 ((oId o, ()), ()) = some ((x, y, ()), ()) := by
        rw [hx, hy]; exact fx_of (fn := Tryz.f111) (hG _ _) (by kernel_rfl) (by kernel_rfl) (nf111 _ _ _)
      refine bind_of h111 ?_
      -- what is remembered
      refine lx_of (j := 0) (by kernel_rfl) ((nl93_0 _ _ _).trans ?_)
      refine cond_T rfl (cond_T rfl (bind_of (a := x) rfl ?_))
      refine bind_of (fx117 hG (workOf s) x h.d.rw hs hxd s.1.2) ?_
      refine bind_of (fx116 hG (workOf s) x (aheadD s.1 x) h.g (by show s.2.length ≤ _; omega)) ?_
      refine lx_of (j := 0) (by kernel_rfl) ((nl93_0 _ _ _).trans ?_)
      refine cond_T rfl (cond_T rfl (bind_of (a := y) rfl ?_))
      refine bind_of (fx117 hG (s.1.1, (s.1.2, (addGone s.2 (x, aheadD s.1 x), ()))) y h.d.rw hs hyd s.1.2) ?_
      refine bind_of (fx116 hG (s.1.1, (s.1.2, (addGone s.2 (x, aheadD s.1 x), ()))) y (aheadD s.1 y) g1.1 (by have := g1.2; show (addGone s.2 (x, aheadD s.1 x)).length ≤ _; omega)) ?_
      refine lx_of (j := 0) (by kernel_rfl) ((nl93_0 _ _ _).trans ?_)
      refine cond_F rfl ?_
      -- what is taken out
      generalize addGone (addGone s.2 (x, aheadD s.1 x)) (y, aheadD s.1 y) = gg
      obtain ⟨k, v, hk, hxv, hv⟩ := at_place hxd
      refine lx_of (j := 1) (by kernel_rfl) ((nl93_1 _ _ _).trans ?_)
      refine cond_T rfl (cond_T rfl (bind_of (a := x) rfl ?_))
      refine bind_of (fx118 hG (s.1.1, (s.1.2, (gg, ()))) x h.d.rw hs.n hs.r hk hxv) ?_
      refine opt_S rfl (cond_T rfl (bind_of hk ?_))
      refine bind_of (fx119 hG v.2.1 x (h.d.rw.ring hv) (hs.r v hv)) ?_
      refine bind_of hk ?_
      have e1 : s.1.1.set k (v.1, (remR v.2.1 x, v.2.2)) = (removed s.1 x).1 := cut_one (w := (s.1.1, (s.1.2, (gg, ())))) h.d.rw hk hxv s.1.2
      have hs1 : Sv (removed s.1 x).1 := by
        rw [removed_of h.d.rw hv hxv]
        exact hs.re _ (Nat.le_trans (remR_length_le x) (hs.r v hv))
      obtain ⟨k2, v2, hk2, hyv, hv2⟩ := at_place hyd1
      have e2 : (removed s.1 x).1.set k2 (v2.1, (remR v2.2.1 y, v2.2.2)) = (removed (removed s.1 x) y).1 := cut_one (w := ((removed s.1 x).1, (s.1.2, (gg, ())))) q1 hk2 hyv (removed s.1 x).2
      have rest : ∀ a : List Vert, a = (removed s.1 x).1 → LX G 93 sg93 Tryz.f93 sh93_1 (seg Tryz.prog 93 1) ((((cntE s.1.2 (oId o) : Nat) : Int), ((2 : Int), ((1 : Int), ()))), (((a, (s.1.2, (gg, ()))), ()), ([x, y], ()))) = some (((0 : Int), ()), (((removed (removed s.1 x) y).1, (dropE s.1.2 (oId o), (gg, ()))), ())) := by
        intro a ha
        subst ha
        refine lx_of (j := 1) (by kernel_rfl) ((nl93_1 _ _ _).trans ?_)
        refine cond_T rfl (cond_T rfl (bind_of (a := y) rfl ?_))
        refine bind_of (fx118 hG ((removed s.1 x).1, (s.1.2, (gg, ()))) y q1 hs1.n hs1.r hk2 hyv) ?_
        refine opt_S rfl (cond_T rfl (bind_of hk2 ?_))
        refine bind_of (fx119 hG v2.2.1 y (q1.ring hv2) (hs1.r v2 hv2)) ?_
        refine bind_of hk2 ?_
        have last : ∀ b : List Vert, b = (removed (removed s.1 x) y).1 → LX G 93 sg93 Tryz.f93 sh93_1 (seg Tryz.prog 93 1) ((((cntE s.1.2 (oId o) : Nat) : Int), ((2 : Int), ((2 : Int), ()))), (((b, (s.1.2, (gg, ()))), ()), ([x, y], ()))) = some (((0 : Int), ()), (((removed (removed s.1 x) y).1, (dropE s.1.2 (oId o), (gg, ()))), ())) := by
          intro b hb
          subst hb
          refine lx_of (j := 1) (by kernel_rfl) ((nl93_1 _ _ _).trans ?_)
          obtain ⟨d1, d2⟩ := del_edge h.d.se hf (by omega)
          refine cond_F rfl (cond_T d1 ?_)
          exact congrArg (fun l : List EdgeT => some (((0 : Int), ()), (((removed (removed s.1 x) y).1, (l, (gg, ()))), ()))) d2
        exact last _ e2
      exact rest _ e1
    · rw [← hx, ← hy]
      unfold without
      rw [drop_zV hgv]
      rfl
end Go.Vs

set_option linter.unusedVariables false
set_option linter.unusedSimpArgs false
namespace Go.Vs
open Go.Proofs
variable {G : (f : FuncId) → (g : Sig) → Option (g.A → Option g.B)}

theorem split_bits {n : Int} (h0 : 0 ≤ n) (h3 : n ≤ 3) : bitsI .xor .i64 1 (bitsI .and .i64 n 1) = IntKind.wrap .i64 (1 - Int.tmod n 2) ∧ shrI .i64 n 1 = IntKind.wrap .i64 (Int.tdiv n 2) := by
  have : n = 0 ∨ n = 1 ∨ n = 2 ∨ n = 3 := by omega
  rcases this with rfl | rfl | rfl | rfl <;> exact ⟨by decide, by decide⟩
theorem swap_one {l : List Vert} {x : Dart} (hw : Rw l) {k : Nat} {v : Vert} (hk : l[k]? = some v) (hx : x ∈ v.2.1) (y : Dart) (e : List EdgeT) : l.set k (v.1, (swapR v.2.1 x y, v.2.2)) = (swapped (l, e) x y).1 := by
  rw [swapped_of (d := (l, e)) hw y (List.mem_of_getElem? hk) hx]
  exact set_re hw.s hk _
theorem fx94 (hG : ∀ f g, G f g = none) (s : StateT) (o : OpT) (h : WfS s) (hs : Sv s.1.1) (hm : mayOp o = 0) (hk5 : o.1 = 5) :
    ∃ (e : Int) (w : WorkT), FX G 94 sg94 ((o, ()), (workOf s, ())) = some ((e, ()), (w, ())) ∧ doneP e w = splitR s o := by
  have hne := h.d.ne; have hnv := h.d.nv
  obtain ⟨m1, m2, m3, m4⟩ := may_split hm hk5
  obtain ⟨s1, s2⟩ := side_val m3 m4
  obtain ⟨c1, c2⟩ := split_bits m3 m4
  have key : ∀ (e : Int) (w : WorkT), FX G 94 sg94 ((o, ()), (workOf s, ())) = some ((e, ()), (w, ())) → doneP e w = splitR s o → ∃ (e : Int) (w : WorkT), FX G 94 sg94 ((o, ()), (workOf s, ())) = some ((e, ()), (w, ())) ∧ doneP e w = splitR s o := fun e w a b => ⟨e, w, a, b⟩
  have start : ∀ (e : Int) (w : WorkT), nfE 94 sg94 Tryz.f94 (FX G) (LX G 94 sg94 Tryz.f94) ((o, ()), (workOf s, ())) = some ((e, ()), (w, ())) → FX G 94 sg94 ((o, ()), (workOf s, ())) = some ((e, ()), (w, ())) := fun e w a =>
    fx_of (fn := Tryz.f94) (hG _ _) (by kernel_rfl) (by kernel_rfl) a
  unfold splitR
  cases hf : (findE s.1.2 (oId o)).isSome with
  | false =>
    refine ⟨13, workOf s, start _ _ ((nf94 _ _ _).trans ?_), ?_⟩
    · refine bind_of (fx115 hG (workOf s) (oId o) h.d.se (by show s.1.2.length ≤ _; omega)) ?_
      refine bind_of (fx107 hG (workOf s) (oNew o) h.d.sv (by show s.1.1.length ≤ _; omega)) ?_
      refine bind_of (fx115 hG (workOf s) (oOther o) h.d.se (by show s.1.2.length ≤ _; omega)) ?_
      exact cond_not_of ((thereE_iff (l := s.1.2) h.d.se).trans hf) rfl
    · rw [if_pos (show (edge s.1 (oId o)).isSome = false from hf)]; rfl
  | true =>
  rw [if_neg (show ¬ (edge s.1 (oId o)).isSome = false by show ¬ (findE s.1.2 (oId o)).isSome = false; rw [hf]; simp)]
  cases hfv : (findV s.1.1 (oNew o)).isSome with
  | true =>
    refine ⟨12, workOf s, start _ _ ((nf94 _ _ _).trans ?_), ?_⟩
    · refine bind_of (fx115 hG (workOf s) (oId o) h.d.se (by show s.1.2.length ≤ _; omega)) ?_
      refine bind_of (fx107 hG (workOf s) (oNew o) h.d.sv (by show s.1.1.length ≤ _; omega)) ?_
      refine bind_of (fx115 hG (workOf s) (oOther o) h.d.se (by show s.1.2.length ≤ _; omega)) ?_
      refine cond_not_of ((thereE_iff (l := s.1.2) h.d.se).trans hf) (cond_F rfl ?_)
      exact cond_T ((there_iff (l := s.1.1) h.d.sv).trans hfv) rfl
    · rw [if_pos (show (vertex s.1 (oNew o)).isSome = true from hfv)]; rfl
  | false =>
  rw [if_neg (show ¬ (vertex s.1 (oNew o)).isSome = true by show ¬ (findV s.1.1 (oNew o)).isSome = true; rw [hfv]; simp)]
  cases hfo : (findE s.1.2 (oOther o)).isSome with
  | true =>
    refine ⟨12, workOf s, start _ _ ((nf94 _ _ _).trans ?_), ?_⟩
    · refine bind_of (fx115 hG (workOf s) (oId o) h.d.se (by show s.1.2.length ≤ _; omega)) ?_
      refine bind_of (fx107 hG (workOf s) (oNew o) h.d.sv (by show s.1.1.length ≤ _; omega)) ?_
      refine bind_of (fx115 hG (workOf s) (oOther o) h.d.se (by show s.1.2.length ≤ _; omega)) ?_
      refine cond_not_of ((thereE_iff (l := s.1.2) h.d.se).trans hf) (cond_F rfl ?_)
      refine cond_F ((there_iff (l := s.1.1) h.d.sv).trans hfv) ?_
      exact cond_T ((thereE_iff (l := s.1.2) h.d.se).trans hfo) rfl
    · rw [if_pos (show (edge s.1 (oOther o)).isSome = true from hfo)]; rfl
  | false =>
  rw [if_neg (show ¬ (edge s.1 (oOther o)).isSome = true by show ¬ (findE s.1.2 (oOther o)).isSome = true; rw [hfo]; simp)]
  have hnv0 : findV s.1.1 (oNew o) = none := by simpa using hfv
  have hne0 : findE s.1.2 (oOther o) = none := by simpa using hfo
  obtain ⟨m, hmm⟩ : ∃ m : Dart, m = spM o := ⟨_, rfl⟩
  obtain ⟨kk, hkk⟩ : ∃ m : Dart, m = spK o := ⟨_, rfl⟩
  have hmd : m ∈ darts s.1.1 := by rw [hmm]; exact h.d.is_end hf s1
  have hkd : otherD kk ∉ darts s.1.1 := by rw [hkk]; exact h.d.not_end hne0 _
  obtain ⟨p1, q1⟩ := swapped_perm h.d.rw hmd hkd
  have hk2 : kk.2 = 0 ∨ kk.2 = 1 := by rw [hkk]; exact s2
  obtain ⟨k, v, hk, hxv, hv⟩ := at_place hmd
  have e1 : s.1.1.set k (v.1, (swapR v.2.1 m (otherD kk), v.2.2)) = (swapped s.1 m (otherD kk)).1 := swap_one h.d.rw hk hxv _ s.1.2
  have hlen : (swapped s.1 m (otherD kk)).1.length = s.1.1.length := by unfold swapped; exact len_ringed _ _ _
  have hnv' : findV (swapped s.1 m (otherD kk)).1 (oNew o) = none := by
    unfold swapped Vs.ringed
    rw [findV_map (reR_id _ _), hnv0]; rfl
  have eM : ((oId o, bitsI .xor .i64 1 (bitsI .and .i64 (oN o) 1)) : Dart) = m := by rw [hmm, c1]; rfl
  have eK : ((oOther o, shrI .i64 (oN o) 1) : Dart) = kk := by rw [hkk, c2]; rfl
  have go : ∀ (e : Int) (w : WorkT), (∀ a : List Vert, a = (swapped s.1 m (otherD kk)).1 → ((FX G 90 sg90 (((oNew o, (turn [m, kk], (e0, (0 : Int)))), ()), ((a, (s.1.2, (s.2, ()))), ()))).bind fun (y11 : ((Int × Unit) × (WorkT × Unit))) =>
       cond (y11.1.1 != (0 : Int))
        (some (y11.1, ((y11.2.1.1, (y11.2.1.2.1, y11.2.1.2.2)), ())))
        ((FX G 110 sg110 ((oOther o, ()), ((y11.2.1.1, (y11.2.1.2.1, y11.2.1.2.2)), ()))).bind fun (y12 : ((Int × Unit) × (WorkT × Unit))) =>
        some (y12.1, ((y12.2.1.1, (y12.2.1.2.1, y12.2.1.2.2)), ())))) = some ((e, ()), (w, ()))) → FX G 94 sg94 ((o, ()), (workOf s, ())) = some ((e, ()), (w, ())) := fun e w rest => by
    refine start _ _ ((nf94 _ _ _).trans ?_)
    refine bind_of (fx115 hG (workOf s) (oId o) h.d.se (by show s.1.2.length ≤ _; omega)) ?_
    refine bind_of (fx107 hG (workOf s) (oNew o) h.d.sv (by show s.1.1.length ≤ _; omega)) ?_
    refine bind_of (fx115 hG (workOf s) (oOther o) h.d.se (by show s.1.2.length ≤ _; omega)) ?_
    refine cond_not_of ((thereE_iff (l := s.1.2) h.d.se).trans hf) (cond_F rfl ?_)
    refine cond_F ((there_iff (l := s.1.1) h.d.sv).trans hfv) ?_
    refine cond_F ((thereE_iff (l := s.1.2) h.d.se).trans hfo) ?_
    refine cond_F rfl ?_
    have body : ∀ mm k2 : Dart, mm = m → k2 = kk → ((FX G 118 sg118 ((mm, ()), (workOf s, ()))).bind fun (y4 : (((Option ((Fin 1) × Nat)) × Unit) × (WorkT × Unit))) =>
      optE y4.1.1
       (none) fun (p5 : ((Fin 1) × Nat)) =>
      cond (p5.1.val == 0)
       (((y4.2.1.1)[p5.2]?).bind fun (y6 : Vert) =>
       (FX G 122 sg122 ((k2, ()), ())).bind fun (y7 : ((Dart × Unit) × Unit)) =>
       (FX G 121 sg121 ((y6.2.1, (mm, ((y7.1.1.1, y7.1.1.2), ()))), ())).bind fun (y8 : (((List Dart) × Unit) × Unit)) =>
       ((y4.2.1.1)[p5.2]?).bind fun (y9 : Vert) =>
       (FX G 123 sg123 (([mm, k2], ()), ())).bind fun (y10 : (((List Dart) × Unit) × Unit)) =>
       (FX G 90 sg90 (((oNew o, (y10.1.1, ((⟨#[]⟩ : ByteArray), (0 : Int)))), ()), (((List.set y4.2.1.1 p5.2 (y9.1, (y8.1.1, y9.2.2))), (y4.2.1.2.1, y4.2.1.2.2)), ()))).bind fun (y11 : ((Int × Unit) × (WorkT × Unit))) =>
       cond (y11.1.1 != (0 : Int))
        (some (y11.1, ((y11.2.1.1, (y11.2.1.2.1, y11.2.1.2.2)), ())))
        ((FX G 110 sg110 ((oOther o, ()), ((y11.2.1.1, (y11.2.1.2.1, y11.2.1.2.2)), ()))).bind fun (y12 : ((Int × Unit) × (WorkT × Unit))) =>
        some (y12.1, ((y12.2.1.1, (y12.2.1.2.1, y12.2.1.2.2)), ()))))
       (none)) = some ((e, ()), (w, ())) := by
      intro mm k2 hmm2 hk22
      subst hmm2 hk22
      refine bind_of (fx118 hG (workOf s) mm h.d.rw hs.n hs.r hk hxv) ?_
      refine opt_S rfl (cond_T rfl (bind_of hk ?_))
      refine bind_of (fx122 (hG _ _) k2 hk2) ?_
      refine bind_of (fx121 hG v.2.1 mm (otherD k2) (hs.r v hv)) ?_
      refine bind_of hk ?_
      refine bind_of (fx123 hG [mm, k2] (by simp)) ?_
      exact rest _ e1
    exact body _ _ eM eK
  have hbig : 24 ≤ s.1.1.length → newVP ((swapped s.1 m (otherD kk)).1, (s.1.2, (s.2, ()))) (oNew o, (turn [m, kk], (e0, 0))) = (3, ((swapped s.1 m (otherD kk)).1, (s.1.2, (s.2, ())))) := fun hb => by
    unfold newVP
    rw [if_neg (by rw [show findV ((swapped s.1 m (otherD kk)).1, (s.1.2, (s.2, ()))).1 ((oNew o, (turn [m, kk], (e0, 0))) : Vert).1 = none from hnv']; simp)]
    rw [if_pos (by show 24 ≤ (swapped s.1 m (otherD kk)).1.length; omega)]
  have hsmall : ¬ 24 ≤ s.1.1.length → newVP ((swapped s.1 m (otherD kk)).1, (s.1.2, (s.2, ()))) (oNew o, (turn [m, kk], (e0, 0))) = (0, (addV (oNew o, (turn [m, kk], (e0, 0))) (swapped s.1 m (otherD kk)).1, (s.1.2, (s.2, ())))) := fun hb => by
    unfold newVP
    rw [if_neg (by rw [show findV ((swapped s.1 m (otherD kk)).1, (s.1.2, (s.2, ()))).1 ((oNew o, (turn [m, kk], (e0, 0))) : Vert).1 = none from hnv']; simp)]
    rw [if_neg (by show ¬ 24 ≤ (swapped s.1 m (otherD kk)).1.length; omega)]
  by_cases hb : 24 ≤ s.1.1.length
  · refine ⟨3, ((swapped s.1 m (otherD kk)).1, (s.1.2, (s.2, ()))), go _ _ (fun a ha => ?_), ?_⟩
    · subst ha
      refine bind_of (fx90 hG ((swapped s.1 m (otherD kk)).1, (s.1.2, (s.2, ()))) (oNew o, (turn [m, kk], (e0, 0))) q1.s (by show (swapped s.1 m (otherD kk)).1.length ≤ _; omega)) ?_
      rw [hbig hb]
      exact cond_T rfl rfl
    · rw [if_pos hb]; rfl
  rw [if_neg hb]
  have hE : newEP (addV (oNew o, (turn [m, kk], (e0, 0))) (swapped s.1 m (otherD kk)).1, (s.1.2, (s.2, ()))) (oOther o) = if 40 ≤ s.1.2.length then (3, (addV (oNew o, (turn [m, kk], (e0, 0))) (swapped s.1 m (otherD kk)).1, (s.1.2, (s.2, ())))) else (0, (addV (oNew o, (turn [m, kk], (e0, 0))) (swapped s.1 m (otherD kk)).1, (addE (oOther o, (e0, 0)) s.1.2, (s.2, ())))) := by
    unfold newEP
    rw [if_neg (by show ¬ (findE s.1.2 (oOther o)).isSome = true; rw [hfo]; simp)]
  have fin : FX G 94 sg94 ((o, ()), (workOf s, ())) = some (((newEP (addV (oNew o, (turn [m, kk], (e0, 0))) (swapped s.1 m (otherD kk)).1, (s.1.2, (s.2, ()))) (oOther o)).1, ()), ((newEP (addV (oNew o, (turn [m, kk], (e0, 0))) (swapped s.1 m (otherD kk)).1, (s.1.2, (s.2, ()))) (oOther o)).2, ())) := by
    refine go _ _ (fun a ha => ?_)
    subst ha
    refine bind_of (fx90 hG ((swapped s.1 m (otherD kk)).1, (s.1.2, (s.2, ()))) (oNew o, (turn [m, kk], (e0, 0))) q1.s (by show (swapped s.1 m (otherD kk)).1.length ≤ _; omega)) ?_
    rw [hsmall hb]
    refine cond_F rfl ?_
    exact bind_of (fx110 hG (addV (oNew o, (turn [m, kk], (e0, 0))) (swapped s.1 m (otherD kk)).1, (s.1.2, (s.2, ()))) (oOther o) h.d.se (by show s.1.2.length ≤ _; omega)) rfl
  rw [hE] at fin
  by_cases hb4 : 40 ≤ s.1.2.length
  · rw [if_pos hb4] at fin ⊢
    exact ⟨_, _, fin, rfl⟩
  · rw [if_neg hb4] at fin ⊢
    refine ⟨_, _, fin, ?_⟩
    rw [hmm, hkk]; rfl

/-! ### A vertex smoothed -/
theorem fx95 (hG : ∀ f g, G f g = none) (s : StateT) (o : OpT) (h : WfS s) (hs : Sv s.1.1) :
    ∃ (e : Int) (w : WorkT), FX G 95 sg95 ((o, ()), (workOf s, ())) = some ((e, ()), (w, ())) ∧ doneP e w = smoothR s o := by
  have hne := h.d.ne; have hnv := h.d.nv; have hgn := h.n
  have start : ∀ (e : Int) (w : WorkT), nfE 95 sg95 Tryz.f95 (FX G) (LX G 95 sg95 Tryz.f95) ((o, ()), (workOf s, ())) = some ((e, ()), (w, ())) → FX G 95 sg95 ((o, ()), (workOf s, ())) = some ((e, ()), (w, ())) := fun e w a =>
    fx_of (fn := Tryz.f95) (hG _ _) (by kernel_rfl) (by kernel_rfl) a
  unfold smoothR
  cases hf : findV s.1.1 (oId o) with
  | none =>
    refine ⟨13, workOf s, start _ _ ((nf95 _ _ _).trans ?_), ?_⟩
    · refine bind_of (fx107 hG (workOf s) (oId o) h.d.sv (by show s.1.1.length ≤ _; omega)) ?_
      exact cond_not_of ((there_iff (l := s.1.1) h.d.sv).trans (by rw [hf])) rfl
    · rw [show vertex s.1 (oId o) = none from hf]; rfl
  | some v =>
  have hfs : (findV s.1.1 (oId o)).isSome = true := by rw [hf]; rfl
  have hv := findV_mem hf
  have hvi := findV_id hf
  have hget := get_cntV h.d.sv hf
  have hlt := (List.getElem?_eq_some_iff.1 hget).1
  have hgr := h.d.rw
  have go : ∀ (e : Int) (w : WorkT), (cond ((((List.length v.2.1) : Nat) : Int) != (2 : Int)) (some (((14 : Int), ()), (workOf s, ()))) _ = some ((e, ()), (w, ()))) → FX G 95 sg95 ((o, ()), (workOf s, ())) = some ((e, ()), (w, ())) := fun e w rest => by
    refine start _ _ ((nf95 _ _ _).trans ?_)
    refine bind_of (fx107 hG (workOf s) (oId o) h.d.sv (by show s.1.1.length ≤ _; omega)) ?_
    refine cond_not_of ((there_iff (l := s.1.1) h.d.sv).trans hfs) (cond_F rfl ?_)
    refine cond_T (both_T (ge_up _) (lt_up hlt)) (bind_of hget ?_)
    exact rest
  rw [show vertex s.1 (oId o) = some v from hf]
  by_cases hl2 : v.2.1.length = 2
  case neg =>
    refine ⟨14, workOf s, go _ _ (cond_T (by rw [bne_iff_ne]; omega) rfl), ?_⟩
    show doneP 14 (workOf s) = (match v.2.1 with | [r0, r1] => smooth2 s o r0 r1 | _ => (zS, (14, ())))
    split
    · rename_i hr; rw [hr] at hl2; exact absurd rfl hl2
    · rfl
  obtain ⟨r0, r1, hr⟩ : ∃ r0 r1, v.2.1 = [r0, r1] := by
    match hq : v.2.1, hl2 with
    | [a, b], _ => exact ⟨a, b, rfl⟩
  have hlen2 : (((List.length v.2.1 : Nat) : Int) != (2 : Int)) = false := by rw [hl2]; rfl
  have g0 : getI v.2.1 (0 : Int) = some r0 := by rw [hr]; rfl
  have g1 : getI v.2.1 (1 : Int) = some r1 := by rw [hr]; rfl
  show ∃ (e : Int) (w : WorkT), FX G 95 sg95 ((o, ()), (workOf s, ())) = some ((e, ()), (w, ())) ∧ doneP e w = (match v.2.1 with | [r0, r1] => smooth2 s o r0 r1 | _ => (zS, (14, ())))
  rw [hr]
  show ∃ (e : Int) (w : WorkT), FX G 95 sg95 ((o, ()), (workOf s, ())) = some ((e, ()), (w, ())) ∧ doneP e w = smooth2 s o r0 r1
  unfold smooth2
  by_cases h01 : r0.1 = r1.1
  · refine ⟨14, workOf s, go _ _ (cond_F hlen2 (bind_of g0 (bind_of g1 (cond_T ((beqI r0.1 r1.1).trans (decide_eq_true h01)) rfl)))), ?_⟩
    rw [if_pos h01]; rfl
  rw [if_neg h01]
  have b01 := (beqI r0.1 r1.1).trans (decide_eq_false h01)
  have tail : ∀ a b : Dart, v.2.1.Perm [a, b] → a.1 ≠ b.1 → ((FX G 122 sg122 ((b, ()), ())).bind fun (y7 : ((Dart × Unit) × Unit)) =>
        cond (delOk s.1.1 ((cntV s.1.1 (oId o) : Nat) : Int) (IntKind.wrap .i64 (((cntV s.1.1 (oId o) : Nat) : Int) + (1 : Int))))
         ((FX G 118 sg118 (((y7.1.1.1, y7.1.1.2), ()), (((delRow s.1.1 ((cntV s.1.1 (oId o) : Nat) : Int) (IntKind.wrap .i64 (((cntV s.1.1 (oId o) : Nat) : Int) + (1 : Int)))), (s.1.2, (s.2, ()))), ()))).bind fun (y8 : (((Option ((Fin 1) × Nat)) × Unit) × (WorkT × Unit))) =>
         optE y8.1.1
          (none) fun (p9 : ((Fin 1) × Nat)) =>
         cond (p9.1.val == 0)
          (((y8.2.1.1)[p9.2]?).bind fun (y10 : Vert) =>
          (FX G 121 sg121 ((y10.2.1, ((y7.1.1.1, y7.1.1.2), (a, ()))), ())).bind fun (y11 : (((List Dart) × Unit) × Unit)) =>
          ((y8.2.1.1)[p9.2]?).bind fun (y12 : Vert) =>
          (FX G 115 sg115 ((b.1, ()), (((List.set y8.2.1.1 p9.2 (y12.1, (y11.1.1, y12.2.2))), (y8.2.1.2.1, y8.2.1.2.2)), ()))).bind fun (y13 : ((Int × (Bool × Unit)) × (WorkT × Unit))) =>
          cond (delOk y13.2.1.2.1 y13.1.1 (IntKind.wrap .i64 (y13.1.1 + (1 : Int))))
           (LX G 95 sg95 Tryz.f95 sh95_0 (seg Tryz.prog 95 0) (((0 : Int), ()), (((y13.2.1.1, ((delRow y13.2.1.2.1 y13.1.1 (IntKind.wrap .i64 (y13.1.1 + (1 : Int)))), y13.2.1.2.2)), ((a, ()), ((b, ()), (((y7.1.1.1, y7.1.1.2), ()), ())))), ())))
           (none))
          (none))
         (none)) = some (((0 : Int), ()), (((smD s o a b).1, ((smD s o a b).2, (smG s.2 a b, ()))), ())) := by
    intro a b hp hab
    obtain ⟨p, q, h1, _, h2, _⟩ := splitV h.d.sv hv
    have pd : (darts s.1.1).Perm (a :: b :: darts (p ++ q)) := by
      have := (darts_mid p q v).trans (List.Perm.append_right _ hp)
      rw [← h1] at this; exact this
    have hdrop : dropV s.1.1 (oId o) = p ++ q := by rw [← hvi]; exact h2
    have hd1 : without s.1 (oId o) zI = (p ++ q, s.1.2) := by unfold without; rw [hdrop, drop_zE h.d.ge]
    have hnd := pd.nodup_iff.1 hgr.n
    have hbm : b ∈ ends s.1.2 := h.d.pd.mem_iff.1 (pd.mem_iff.2 (by simp))
    obtain ⟨e, he, he1, hb2⟩ := mem_ends.1 hbm
    have hfe : (findE s.1.2 b.1).isSome = true := by
      unfold findE; rw [List.find?_isSome]; exact ⟨e, he, by simpa using he1⟩
    obtain ⟨_, ho⟩ := otherD_in hb2
    have hfar : otherD b ∈ darts (p ++ q) := by
      have h3 : otherD b ∈ darts s.1.1 := h.d.is_end (s := (otherD b).2) hfe (by rcases ho with ⟨_, k⟩ | ⟨_, k⟩ <;> omega)
      rcases List.mem_cons.1 (pd.mem_iff.1 h3) with k | k
      · exact absurd (congrArg Prod.fst k) (fun k => hab k.symm)
      rcases List.mem_cons.1 k with k | k
      · have := congrArg Prod.snd k; omega
      · exact k
    have hrw1 : Rw (p ++ q) := ⟨by rw [← h2]; exact sort_dropV h.d.sv, (List.nodup_cons.1 (List.nodup_cons.1 hnd).2).2⟩
    have hsub : ∀ u ∈ p ++ q, u ∈ s.1.1 := fun u hu => by
      rw [h1]
      rcases List.mem_append.1 hu with k | k
      · exact List.mem_append_left _ k
      · exact List.mem_append_right _ (List.mem_cons_of_mem _ k)
    have hs1 : Sv (p ++ q) := ⟨by
      have := hs.n; rw [h1] at this; simp at this ⊢; omega, fun u hu => hs.r u (hsub u hu)⟩
    obtain ⟨dk1, dk2⟩ := del_vert h.d.sv hfs (by omega)
    rw [hdrop] at dk2
    obtain ⟨k, u, hk, hxu, hu⟩ := at_place hfar
    have e1 : (p ++ q).set k (u.1, (swapR u.2.1 (otherD b) a, u.2.2)) = (swapped (p ++ q, s.1.2) (otherD b) a).1 := swap_one hrw1 hk hxu _ s.1.2
    have hgv : ∀ w ∈ (swapped (p ++ q, s.1.2) (otherD b) a).1, GV w := swapped_gv (d := (p ++ q, s.1.2)) (fun w hw => h.d.gv w (hsub w hw)) _ _
    have eD : smD s o a b = ((swapped (p ++ q, s.1.2) (otherD b) a).1, dropE s.1.2 b.1) := by
      unfold smD
      rw [hd1]
      unfold without
      rw [drop_zV hgv]; rfl
    have ga := addGone_ok h.g h.n ((b.1, 0), smTo a b 0)
    rw [eD]
    refine bind_of (fx122 (hG _ _) b hb2) ?_
    refine cond_T dk1 ?_
    have r1 : ∀ l1 : List Vert, l1 = p ++ q → ((FX G 118 sg118 ((otherD b, ()), ((l1, (s.1.2, (s.2, ()))), ()))).bind fun (y8 : (((Option ((Fin 1) × Nat)) × Unit) × (WorkT × Unit))) =>
         optE y8.1.1
          (none) fun (p9 : ((Fin 1) × Nat)) =>
         cond (p9.1.val == 0)
          (((y8.2.1.1)[p9.2]?).bind fun (y10 : Vert) =>
          (FX G 121 sg121 ((y10.2.1, (otherD b, (a, ()))), ())).bind fun (y11 : (((List Dart) × Unit) × Unit)) =>
          ((y8.2.1.1)[p9.2]?).bind fun (y12 : Vert) =>
          (FX G 115 sg115 ((b.1, ()), (((List.set y8.2.1.1 p9.2 (y12.1, (y11.1.1, y12.2.2))), (y8.2.1.2.1, y8.2.1.2.2)), ()))).bind fun (y13 : ((Int × (Bool × Unit)) × (WorkT × Unit))) =>
          cond (delOk y13.2.1.2.1 y13.1.1 (IntKind.wrap .i64 (y13.1.1 + (1 : Int))))
           (LX G 95 sg95 Tryz.f95 sh95_0 (seg Tryz.prog 95 0) (((0 : Int), ()), (((y13.2.1.1, ((delRow y13.2.1.2.1 y13.1.1 (IntKind.wrap .i64 (y13.1.1 + (1 : Int)))), y13.2.1.2.2)), ((a, ()), ((b, ()), ((otherD b, ()), ())))), ())))
           (none))
          (none)) = some (((0 : Int), ()), (((swapped (p ++ q, s.1.2) (otherD b) a).1, (dropE s.1.2 b.1, (smG s.2 a b, ()))), ())) := by
      intro l1 hl1
      subst hl1
      refine bind_of (fx118 hG (p ++ q, (s.1.2, (s.2, ()))) (otherD b) hrw1 hs1.n hs1.r hk hxu) ?_
      refine opt_S rfl (cond_T rfl (bind_of hk ?_))
      refine bind_of (fx121 hG u.2.1 (otherD b) a (hs1.r u hu)) ?_
      refine bind_of hk ?_
      have r2 : ∀ l2 : List Vert, l2 = (swapped (p ++ q, s.1.2) (otherD b) a).1 → ((FX G 115 sg115 ((b.1, ()), ((l2, (s.1.2, (s.2, ()))), ()))).bind fun (y13 : ((Int × (Bool × Unit)) × (WorkT × Unit))) =>
          cond (delOk y13.2.1.2.1 y13.1.1 (IntKind.wrap .i64 (y13.1.1 + (1 : Int))))
           (LX G 95 sg95 Tryz.f95 sh95_0 (seg Tryz.prog 95 0) (((0 : Int), ()), (((y13.2.1.1, ((delRow y13.2.1.2.1 y13.1.1 (IntKind.wrap .i64 (y13.1.1 + (1 : Int)))), y13.2.1.2.2)), ((a, ()), ((b, ()), ((otherD b, ()), ())))), ())))
           (none)) = some (((0 : Int), ()), (((swapped (p ++ q, s.1.2) (otherD b) a).1, (dropE s.1.2 b.1, (smG s.2 a b, ()))), ())) := by
        intro l2 hl2
        subst hl2
        refine bind_of (fx115 hG ((swapped (p ++ q, s.1.2) (otherD b) a).1, (s.1.2, (s.2, ()))) b.1 h.d.se (by show s.1.2.length ≤ _; omega)) ?_
        obtain ⟨ek1, ek2⟩ := del_edge h.d.se hfe (by omega)
        refine cond_T ek1 ?_
        have r3 : ∀ l3 : List EdgeT, l3 = dropE s.1.2 b.1 → (LX G 95 sg95 Tryz.f95 sh95_0 (seg Tryz.prog 95 0) (((0 : Int), ()), ((((swapped (p ++ q, s.1.2) (otherD b) a).1, (l3, (s.2, ()))), ((a, ()), ((b, ()), ((otherD b, ()), ())))), ()))) = some (((0 : Int), ()), (((swapped (p ++ q, s.1.2) (otherD b) a).1, (dropE s.1.2 b.1, (smG s.2 a b, ()))), ())) := by
          intro l3 hl3
          subst hl3
          have eb : b = (b.1, b.2) := rfl
          have eo : otherD b = (b.1, (otherD b).2) := rfl
          rcases ho with ⟨hb0, ho1⟩ | ⟨hb1, ho0⟩
          · rw [hb0] at eb; rw [ho1] at eo
            have t0 : smTo a b 0 = zD := by unfold smTo; rw [if_neg (by rw [eo]; simp)]
            have t1 : smTo a b 1 = a := by unfold smTo; rw [if_pos eo.symm]
            rw [t0, ← eb] at ga
            have eG : smG s.2 a b = addGone (addGone s.2 (b, zD)) (otherD b, a) := by unfold smG; rw [t0, t1, ← eb, ← eo]
            rw [eG]
            refine lx_of (j := 0) (by kernel_rfl) ((nl95_0 _ _ _).trans ?_)
            refine cond_T rfl (cond_T (by show (b.2 == (0 : Int)) = true; simp [hb0]) ?_)
            refine bind_of (fx116 hG ((swapped (p ++ q, s.1.2) (otherD b) a).1, (dropE s.1.2 b.1, (s.2, ()))) b zD h.g (by show s.2.length ≤ _; omega)) ?_
            refine lx_of (j := 0) (by kernel_rfl) ((nl95_0 _ _ _).trans ?_)
            refine cond_T rfl (cond_F (by show (b.2 == (1 : Int)) = false; simp [hb0]) ?_)
            refine bind_of (fx116 hG ((swapped (p ++ q, s.1.2) (otherD b) a).1, (dropE s.1.2 b.1, (addGone s.2 (b, zD), ()))) (otherD b) a ga.1 (by have := ga.2; show (addGone s.2 (b, zD)).length ≤ _; omega)) ?_
            refine lx_of (j := 0) (by kernel_rfl) ((nl95_0 _ _ _).trans ?_)
            exact cond_F rfl rfl
          · rw [hb1] at eb; rw [ho0] at eo
            have t0 : smTo a b 0 = a := by unfold smTo; rw [if_pos eo.symm]
            have t1 : smTo a b 1 = zD := by unfold smTo; rw [if_neg (by rw [eo]; simp)]
            rw [t0, ← eo] at ga
            have eG : smG s.2 a b = addGone (addGone s.2 (otherD b, a)) (b, zD) := by unfold smG; rw [t0, t1, ← eb, ← eo]
            rw [eG]
            refine lx_of (j := 0) (by kernel_rfl) ((nl95_0 _ _ _).trans ?_)
            refine cond_T rfl (cond_F (by show (b.2 == (0 : Int)) = false; simp [hb1]) ?_)
            refine bind_of (fx116 hG ((swapped (p ++ q, s.1.2) (otherD b) a).1, (dropE s.1.2 b.1, (s.2, ()))) (otherD b) a h.g (by show s.2.length ≤ _; omega)) ?_
            refine lx_of (j := 0) (by kernel_rfl) ((nl95_0 _ _ _).trans ?_)
            refine cond_T rfl (cond_T (by show (b.2 == (1 : Int)) = true; simp [hb1]) ?_)
            refine bind_of (fx116 hG ((swapped (p ++ q, s.1.2) (otherD b) a).1, (dropE s.1.2 b.1, (addGone s.2 (otherD b, a), ()))) b zD ga.1 (by have := ga.2; show (addGone s.2 (otherD b, a)).length ≤ _; omega)) ?_
            refine lx_of (j := 0) (by kernel_rfl) ((nl95_0 _ _ _).trans ?_)
            exact cond_F rfl rfl
        exact r3 _ ek2
      exact r2 _ e1
    exact r1 _ dk2
  have bo : ∀ y : Dart, ((y.1.1 == (oOther o).1) && (y.1.2 == (oOther o).2)) = decide (y.1 = oOther o) := fun y => beqI y.1 (oOther o)
  by_cases h0 : r0.1 = oOther o
  · rw [if_pos h0]
    refine ⟨0, ((smD s o r1 r0).1, ((smD s o r1 r0).2, (smG s.2 r1 r0, ()))), go _ _ (cond_F hlen2 (bind_of g0 (bind_of g1 (cond_F b01 (bind_of g0 (bind_of g1 (cond_T ((bo r0).trans (decide_eq_true h0)) ?_))))))), rfl⟩
    refine cond_not_of ((bo r0).trans (decide_eq_true h0)) (cond_F rfl ?_)
    exact tail r1 r0 (by rw [hr]; exact List.Perm.swap _ _ _) (fun k => h01 k.symm)
  rw [if_neg h0]
  by_cases h1 : r1.1 = oOther o
  · rw [if_pos h1]
    refine ⟨0, ((smD s o r0 r1).1, ((smD s o r0 r1).2, (smG s.2 r0 r1, ()))), go _ _ (cond_F hlen2 (bind_of g0 (bind_of g1 (cond_F b01 (bind_of g0 (bind_of g1 (cond_F ((bo r0).trans (decide_eq_false h0)) ?_))))))), rfl⟩
    refine cond_not_of ((bo r1).trans (decide_eq_true h1)) (cond_F rfl ?_)
    exact tail r0 r1 (by rw [hr]) h01
  rw [if_neg h1]
  refine ⟨14, workOf s, go _ _ (cond_F hlen2 (bind_of g0 (bind_of g1 (cond_F b01 (bind_of g0 (bind_of g1 (cond_F ((bo r0).trans (decide_eq_false h0)) ?_))))))), rfl⟩
  exact cond_not_of ((bo r1).trans (decide_eq_false h1)) (cond_T rfl rfl)
end Go.Vs

set_option linter.unusedVariables false
set_option linter.unusedSimpArgs false
namespace Go.Vs
open Go.Proofs
variable {G : (f : FuncId) → (g : Sig) → Option (g.A → Option g.B)}

theorem any_findV (l : List Vert) (x : ID) : l.any (fun w => decide (w.1 = x)) = (findV l x).isSome := by
  rw [Bool.eq_iff_iff, List.any_eq_true]; unfold findV; rw [List.find?_isSome]
theorem any_findE (l : List EdgeT) (x : ID) : l.any (fun w => decide (w.1 = x)) = (findE l x).isSome := by
  rw [Bool.eq_iff_iff, List.any_eq_true]; unfold findE; rw [List.find?_isSome]
theorem setP_setR (s : StateT) (o : OpT) : doneP (setP (workOf s) o).1 (setP (workOf s) o).2 = setR s o := by
  unfold setP setR hasV hasE
  rw [any_findV, any_findE]
  by_cases ho : oOfE o = true
  · have hv : s.1.1.map (setV o) = s.1.1 := by
      conv => rhs; rw [← List.map_id s.1.1]
      exact List.map_congr_left fun u hu => by unfold setV; rw [if_neg (by rw [ho]; simp)]; rfl
    rw [if_pos ho, ho, hv]
    show doneP (if (findE s.1.2 (oId o)).isSome = true then _ else _ : Int × WorkT).1 (if (findE s.1.2 (oId o)).isSome = true then _ else _ : Int × WorkT).2 = _
    cases (findE s.1.2 (oId o)).isSome <;> rfl
  · have ho' : oOfE o = false := by simpa using ho
    have he : s.1.2.map (setE o) = s.1.2 := by
      conv => rhs; rw [← List.map_id s.1.2]
      exact List.map_congr_left fun u hu => by unfold setE; rw [if_neg (by rw [ho']; simp)]; rfl
    rw [if_neg ho, ho', he]
    show doneP (if (findV s.1.1 (oId o)).isSome = true then _ else _ : Int × WorkT).1 (if (findV s.1.1 (oId o)).isSome = true then _ else _ : Int × WorkT).2 = _
    cases (findV s.1.1 (oId o)).isSome <;> rfl
theorem fx66_set (hG : ∀ f g, G f g = none) (w : WorkT) (o : OpT) (hk : 7 ≤ o.1) (hv : SortV w.1) (he : SortE w.2.1) (hlv : w.1.length ≤ 50000000) (hle : w.2.1.length ≤ 50000000) :
    FX G 66 sg66 ((o, ()), (w, ())) = some (((setP w o).1, ()), ((setP w o).2, ())) := by
  refine fx_of (fn := Tryz.f66) (hG _ _) (by kernel_rfl) (by kernel_rfl) ((nf66 _ _ _).trans ?_)
  have kn : ∀ k : Int, k < 7 → (o.1 == k) = false := fun k hk2 => kne (by omega)
  refine cond_F (kn 1 (by omega)) (cond_F (kn 2 (by omega)) (cond_F (kn 3 (by omega)) (cond_F (kn 4 (by omega)) (cond_F (kn 5 (by omega)) (cond_F (kn 6 (by omega)) ?_)))))
  exact bind_of (fx96 hG w o hv he hlv hle) rfl
theorem fx14_set (hG : ∀ f g, G f g = none) (s : StateT) (o : OpT) (hk : 7 ≤ o.1) (hf : Fit o) (hv : SortV s.1.1) (he : SortE s.1.2) (hs : Sm s.1) (hg : s.2.length ≤ 50000000) (hm : mayOp o = 0) :
    FX G 14 sg14 ((s, o, ()), ()) = some (setR s o, ()) := by
  have h1 := hs.v; have h2 := hs.e
  refine (fx14_of hG s o (fx43 hG o hf) hs hg (fun _ => fx66_set hG (workOf s) o hk hv he (by show s.1.1.length ≤ _; omega) (by show s.1.2.length ≤ _; omega))).trans ?_
  rw [hm, if_neg (by simp), setP_setR]

/-! ### Set, and set back -/
def opL (x : ID) (e : Bool) (t : ByteArray) : OpT := (7, (x, (zI, (zI, (zC, (zC, (e, (t, 0))))))))
def opA (x : ID) (e : Bool) (n : Int) : OpT := (8, (x, (zI, (zI, (zC, (zC, (e, (e0, n))))))))
theorem mayOp_L {x : ID} {e : Bool} {t : ByteArray} (hx : mayI x = true) (ht : mayL t = true) : mayOp (opL x e t) = 0 := by
  unfold mayOp
  rw [if_neg (by simp [opL]), if_neg (by simp [opL]), if_neg (by simp [opL, hx]), if_neg, if_neg (by simp [opL]), if_neg (by simp [opL]), if_neg (by simp [opL]), if_neg (by simp [opL]), if_pos (show (opL x e t).1 = 7 from rfl)]
  · exact if_pos ht
  intro h
  have : eqOp (restR (opL x e t)) zOp = true := (eqOp_iff _ _).2 rfl
  rw [this] at h; cases h
theorem mayOp_A {x : ID} {e : Bool} {n : Int} (hx : mayI x = true) (ht : mayA n = true) : mayOp (opA x e n) = 0 := by
  unfold mayOp
  rw [if_neg (by simp [opA]), if_neg (by simp [opA]), if_neg (by simp [opA, hx]), if_neg, if_neg (by simp [opA]), if_neg (by simp [opA]), if_neg (by simp [opA]), if_pos (show (opA x e n).1 = 8 from rfl)]
  · exact if_pos ht
  intro h
  have : eqOp (restR (opA x e n)) zOp = true := (eqOp_iff _ _).2 rfl
  rw [this] at h; cases h
theorem mayL_size {t : ByteArray} (h : mayL t = true) : t.size ≤ 16 := by
  unfold mayL at h
  simp only [Bool.and_eq_true, decide_eq_true_eq] at h
  exact h.2
theorem mayA_in {n : Int} (h : mayA n = true) : inR n := by
  unfold mayA at h
  simp only [decide_eq_true_eq] at h
  unfold inR; omega
theorem inR0 : inR 0 := by unfold inR; omega
theorem fit_L {x : ID} {e : Bool} {t : ByteArray} (ht : mayL t = true) : Fit (opL x e t) := ⟨inR0, inR0, inR0, by have := mayL_size ht; show t.size ≤ _; omega⟩
theorem fit_A {x : ID} {e : Bool} {n : Int} (ht : mayA n = true) : Fit (opA x e n) := ⟨inR0, inR0, mayA_in ht, by show e0.size ≤ _; simp [e0, ByteArray.size]⟩
theorem uniqV {l : List Vert} (hs : SortV l) {v w : Vert} (hv : v ∈ l) (hw : w ∈ l) (h : w.1 = v.1) : w = v := by
  have h1 := findV_of hs hv
  have h2 := findV_of hs hw
  rw [h, h1] at h2
  exact (Option.some.inj h2).symm
theorem findE_of {l : List EdgeT} {v : EdgeT} (hs : SortE l) (h : v ∈ l) : findE l v.1 = some v := by
  have hf : (findE l v.1).isSome = true := by
    unfold findE; rw [List.find?_isSome]; exact ⟨v, h, by simp⟩
  obtain ⟨u, hu⟩ := Option.isSome_iff_exists.1 hf
  have h1 := get_cntE hs hu
  obtain ⟨k, hk, he⟩ := List.getElem_of_mem h
  have h2 : l[k]? = some v := by rw [List.getElem?_eq_getElem hk, he]
  rw [cntE_only hs h2 rfl, h1] at h2
  rw [hu]; exact h2
theorem uniqE {l : List EdgeT} (hs : SortE l) {v w : EdgeT} (hv : v ∈ l) (hw : w ∈ l) (h : w.1 = v.1) : w = v := by
  have h1 := findE_of hs hv
  have h2 := findE_of hs hw
  rw [h, h1] at h2
  exact (Option.some.inj h2).symm
theorem map_back {α : Type} {l : List α} {f g : α → α} (h : ∀ w ∈ l, f (g w) = w) : (l.map g).map f = l := by
  rw [List.map_map]
  conv => rhs; rw [← List.map_id l]
  exact List.map_congr_left fun w hw => h w hw
theorem setV_off {o : OpT} (h : oOfE o = true) (w : Vert) : setV o w = w := by unfold setV; rw [if_neg (by rw [h]; simp)]
theorem setE_off {o : OpT} (h : oOfE o = false) (w : EdgeT) : setE o w = w := by unfold setE; rw [if_neg (by rw [h]; simp)]
theorem setR_gone {s : StateT} {o : OpT} (h : (if oOfE o = true then (findE s.1.2 (oId o)).isSome else (findV s.1.1 (oId o)).isSome) = false) : setR s o = (zS, (13, ())) := by
  unfold setR hasV hasE
  rw [any_findV, any_findE]
  cases ho : oOfE o <;> rw [ho] at h <;> simp at h <;> rw [if_neg] <;> simp [h]
theorem setR_there {s : StateT} {o : OpT} (h : (if oOfE o = true then (findE s.1.2 (oId o)).isSome else (findV s.1.1 (oId o)).isSome) = true) : setR s o = (((s.1.1.map (setV o), s.1.2.map (setE o)), s.2), (0, ())) := by
  unfold setR hasV hasE
  rw [any_findV, any_findE]
  cases ho : oOfE o <;> rw [ho] at h <;> simp at h <;> rw [if_pos] <;> simp [h]
theorem setE_at {o : OpT} {w : EdgeT} (h : oOfE o = true) (hx : w.1 = oId o) : setE o w = if o.1 = 7 then (w.1, (oText o, w.2.2)) else (w.1, (w.2.1, oN o)) := if_pos ⟨h, hx⟩
theorem setE_ne {o : OpT} {w : EdgeT} (hx : w.1 ≠ oId o) : setE o w = w := if_neg fun k => hx k.2
theorem setV_at {o : OpT} {w : Vert} (h : oOfE o = false) (hx : w.1 = oId o) : setV o w = if o.1 = 7 then (w.1, (w.2.1, (oText o, w.2.2.2))) else (w.1, (w.2.1, (w.2.2.1, oN o))) := if_pos ⟨h, hx⟩
theorem setV_ne {o : OpT} {w : Vert} (hx : w.1 ≠ oId o) : setV o w = w := if_neg fun k => hx k.2
/-- What was set is set back: f undoes g at what has the name. -/
theorem set_back {s : StateT} (h : WfS s) {o p : OpT} (hi : oId o = oId p) (he : oOfE o = oOfE p) (hk : o.1 = p.1)
    (hV : ∀ v, findV s.1.1 (oId o) = some v → oOfE o = false → (o.1 = 7 → oText p = v.2.2.1) ∧ (o.1 ≠ 7 → oN p = v.2.2.2))
    (hE : ∀ v, findE s.1.2 (oId o) = some v → oOfE o = true → (o.1 = 7 → oText p = v.2.1) ∧ (o.1 ≠ 7 → oN p = v.2.2)) :
    (((s.1.1.map (setV o)).map (setV p), (s.1.2.map (setE o)).map (setE p)), s.2) = s := by
  rw [map_back (l := s.1.1), map_back (l := s.1.2)]
  · intro w hw
    cases ho : oOfE o with
    | false => rw [setE_off ho, setE_off (he ▸ ho)]
    | true =>
      have ho2 : oOfE p = true := by rw [← he]; exact ho
      by_cases hx : w.1 = oId o
      · have hfe : findE s.1.2 (oId o) = some w := by rw [← hx]; exact findE_of h.d.se hw
        obtain ⟨h1, h2⟩ := hE w hfe ho
        have hx2 : w.1 = oId p := hx.trans hi
        by_cases h7 : o.1 = 7
        · have h72 : p.1 = 7 := hk ▸ h7
          rw [setE_at ho hx, if_pos h7, setE_at (w := (w.1, (oText o, w.2.2))) ho2 hx2, if_pos h72, h1 h7]
        · have h72 : ¬ p.1 = 7 := hk ▸ h7
          rw [setE_at ho hx, if_neg h7, setE_at (w := (w.1, (w.2.1, oN o))) ho2 hx2, if_neg h72, h2 h7]
      · rw [setE_ne hx, setE_ne (fun k => hx (k.trans hi.symm))]
  · intro w hw
    cases ho : oOfE o with
    | true => rw [setV_off ho, setV_off (he ▸ ho)]
    | false =>
      have ho2 : oOfE p = false := by rw [← he]; exact ho
      by_cases hx : w.1 = oId o
      · have hfe : findV s.1.1 (oId o) = some w := by rw [← hx]; exact findV_of h.d.sv hw
        obtain ⟨h1, h2⟩ := hV w hfe ho
        have hx2 : w.1 = oId p := hx.trans hi
        by_cases h7 : o.1 = 7
        · have h72 : p.1 = 7 := hk ▸ h7
          rw [setV_at ho hx, if_pos h7, setV_at (w := (w.1, (w.2.1, (oText o, w.2.2.2)))) ho2 hx2, if_pos h72, h1 h7]
        · have h72 : ¬ p.1 = 7 := hk ▸ h7
          rw [setV_at ho hx, if_neg h7, setV_at (w := (w.1, (w.2.1, (w.2.2.1, oN o)))) ho2 hx2, if_neg h72, h2 h7]
      · rw [setV_ne hx, setV_ne (fun k => hx (k.trans hi.symm))]
/-- What is behind a label or an attribute that was set. -/
structure Lay (s t : StateT) : Prop where
  v : SortV t.1.1
  e : SortE t.1.2
  sm : Sm t.1
  g : t.2.length ≤ 50000000
theorem lay_of {n : Nat} {s : StateT} (h : WfS s) (hb : Bs n s) (hn : n ≤ 1000000) {o : OpT} (hm : mayOp o = 0) (hk : 7 ≤ o.1) {t : StateT} {e : Int} (ht : setR s o = (t, (e, ()))) : Lay s t := by
  have h1 := h.d.setR hm hk
  have h2 : t = (setR s o).1 := by rw [ht]
  have hb2 : Bs (n + 3) (oneR s o).1 := hb.one o
  have h3 : oneR s o = setR s o := by
    unfold oneR
    rw [if_neg (by simp [hm]), if_neg (by omega), if_neg (by omega), if_neg (by omega), if_neg (by omega), if_neg (by omega), if_neg (by omega)]
  rw [h3, ← h2] at hb2
  rw [← h2] at h1
  have hg := hb2.g
  exact ⟨h1.sv, h1.se, hb2.d.sm (by omega), by omega⟩
/-- The law's last lines. -/
theorem chain8 {R : Type} {a b c d e f g : Bool} {x y r : Option R} (h : (a && (b && (c && (d && (e && (f && g)))))) = true) (k : x = r) : cond a (cond b (cond c (cond d (cond e (cond f (cond g x y) y) y) y) y) y) y = r := by
  cases a <;> cases b <;> cases c <;> cases d <;> cases e <;> cases f <;> cases g <;> first | exact k | cases h
set_option maxRecDepth 4000 in
theorem pure7 (hG : ∀ f g, G f g = none) (l : List (List OpT)) (x : ID) (tx : ByteArray) (n : Int) (oe : Bool) (hl : l.length ≤ 1073741824) (ht : ∀ e ∈ l, ∀ o ∈ e, textOk o) (htx : tx.size ≤ 100000000) :
    FX G 7 sg7 ((l, x, (tx, (n, oe)), ()), ()) = some ((true, ()), ()) := by
  refine fx_of (fn := Tryz.f7) (hG _ _) (by kernel_rfl) (by kernel_rfl) ((nf7 _ _ _).trans ?_)
  refine bind_of (fx12 hG) ?_
  refine bind_of (fx17 hG l hl ht) ?_
  have hbs := Bs.reached l
  have hwf := WfS.reached l
  generalize reachedR l = s at *
  have hd := hbs.d; have hg := hbs.g
  have hsm := hd.sm (by omega)
  have hnv := hwf.d.nv; have hne := hwf.d.ne
  refine bind_of (fx19 (hG _ _) x) ?_
  cases hm : mayI x
  case false => exact cond_T rfl rfl
  refine cond_F rfl ?_
  refine bind_of (fx28 (hG _ _) tx htx) ?_
  cases hml : mayL tx
  case false => exact cond_T rfl rfl
  refine cond_F rfl ?_
  refine bind_of (fx29 (hG _ _) n) ?_
  cases hma : mayA n
  case false => exact cond_T rfl rfl
  refine cond_F rfl ?_
  have step : ∀ (t : StateT) (o : OpT), Lay s t → 7 ≤ o.1 → Fit o → mayOp o = 0 → FX G 14 sg14 ((t, o, ()), ()) = some (setR t o, ()) := fun t o hy hk hf h0 => fx14_set hG t o hk hf hy.v hy.e hy.sm hy.g h0
  have lay0 : Lay s s := ⟨hwf.d.sv, hwf.d.se, hsm, by omega⟩
  refine bind_of (step s (opL x oe tx) lay0 (by simp [opL]) (fit_L hml) (mayOp_L hm hml)) ?_
  refine bind_of (step s (opA x oe n) lay0 (by simp [opA]) (fit_A hma) (mayOp_A hm hma)) ?_
  refine bind_of (fx18 (hG _ _) s.1 x (by omega)) ?_
  refine bind_of (fx21 (hG _ _) s.1 x (by omega)) ?_
  have hV : (orV zV (vertex s.1 x)).2.1 = (findV s.1.1 x).isSome := orV_snd _ _
  have hE : (orV zE (edge s.1 x)).2.1 = (findE s.1.2 x).isSome := orV_snd _ _
  have e13 : (if oe = true then (findE s.1.2 x).isSome else (findV s.1.1 x).isSome) = false → setR s (opL x oe tx) = (zS, (13, ())) ∧ setR s (opA x oe n) = (zS, (13, ())) := fun h => ⟨setR_gone h, setR_gone h⟩
  cases oe with
  | false =>
    cases hfv : findV s.1.1 x with
    | none =>
      obtain ⟨ea, eb⟩ := e13 (by simp [hfv])
      rw [hfv] at hV
      refine cond_F hV ?_
      rw [ea, eb]
      cases hfe : (findE s.1.2 x).isSome
      · exact cond_F (hE.trans hfe) rfl
      · exact cond_T (hE.trans hfe) (cond_T rfl rfl)
    | some v =>
      rw [hfv] at hV
      have gv := hwf.d.gv v (findV_mem hfv)
      have ea : setR s (opL x false tx) = (((s.1.1.map (setV (opL x false tx)), s.1.2.map (setE (opL x false tx))), s.2), (0, ())) := setR_there (by show (findV s.1.1 x).isSome = true; rw [hfv]; rfl)
      have eb : setR s (opA x false n) = (((s.1.1.map (setV (opA x false n)), s.1.2.map (setE (opA x false n))), s.2), (0, ())) := setR_there (by show (findV s.1.1 x).isSome = true; rw [hfv]; rfl)
      have la := lay_of hwf hbs (by omega) (mayOp_L hm hml) (by simp [opL]) ea
      have lb := lay_of hwf hbs (by omega) (mayOp_A hm hma) (by simp [opA]) eb
      have va : findV (s.1.1.map (setV (opL x false tx))) x = some (setV (opL x false tx) v) := by rw [findV_map (setV_id _), hfv]; rfl
      have vb : findV (s.1.1.map (setV (opA x false n))) x = some (setV (opA x false n) v) := by rw [findV_map (setV_id _), hfv]; rfl
      have hvx := findV_id hfv
      have ec : setR ((s.1.1.map (setV (opL x false tx)), s.1.2.map (setE (opL x false tx))), s.2) (opL x false v.2.2.1) = (s, (0, ())) := by
        rw [setR_there (by show (findV (s.1.1.map (setV (opL x false tx))) x).isSome = true; rw [va]; rfl)]
        rw [set_back hwf (o := opL x false tx) (p := opL x false v.2.2.1) rfl rfl rfl (fun u hu _ => by rw [show findV s.1.1 x = some u from hu] at hfv; cases hfv; exact ⟨fun _ => rfl, fun k => absurd rfl k⟩) (fun u hu k => by cases k)]
      have ed : setR ((s.1.1.map (setV (opA x false n)), s.1.2.map (setE (opA x false n))), s.2) (opA x false v.2.2.2) = (s, (0, ())) := by
        rw [setR_there (by show (findV (s.1.1.map (setV (opA x false n))) x).isSome = true; rw [vb]; rfl)]
        rw [set_back hwf (o := opA x false n) (p := opA x false v.2.2.2) rfl rfl rfl (fun u hu _ => by rw [show findV s.1.1 x = some u from hu] at hfv; cases hfv; exact ⟨fun k => (by cases k), fun _ => rfl⟩) (fun u hu k => by cases k)]
      refine cond_T hV (cond_T rfl (cond_F rfl ?_))
      rw [ea, eb, show vertex s.1 x = some v from hfv]
      refine bind_of ((step ((s.1.1.map (setV (opL x false tx)), s.1.2.map (setE (opL x false tx))), s.2) (opL x false v.2.2.1) la (by simp [opL]) (fit_L gv.l) (mayOp_L hm gv.l)).trans (congrArg (fun r => some (r, ())) ec)) ?_
      refine bind_of ((step ((s.1.1.map (setV (opA x false n)), s.1.2.map (setE (opA x false n))), s.2) (opA x false v.2.2.2) lb (by simp [opA]) (fit_A gv.a) (mayOp_A hm gv.a)).trans (congrArg (fun r => some (r, ())) ed)) ?_
      refine bind_of (fx16 hG s s hsm (by omega)) ?_
      refine bind_of (fx16 hG s s hsm (by omega)) ?_
      refine bind_of (fx18 (hG _ _) (s.1.1.map (setV (opL x false tx)), s.1.2.map (setE (opL x false tx))) x (by simp; omega)) ?_
      refine bind_of (fx21 (hG _ _) (s.1.1.map (setV (opA x false n)), s.1.2.map (setE (opA x false n))) x (by simp; omega)) ?_
      rw [show vertex (s.1.1.map (setV (opL x false tx)), s.1.2.map (setE (opL x false tx))) x = some (setV (opL x false tx) v) from va]
      have hsv : setV (opL x false tx) v = (v.1, (v.2.1, (tx, v.2.2.2))) := by rw [setV_at (o := opL x false tx) rfl hvx]; rfl
      rw [hsv]
      refine cond_F rfl (cond_T (by show (tx == tx) = true; rw [beqS]; simp) (cond_T rfl ?_))
      refine chain8 (by rw [decide_eq_true (rfl : s = s)]; rfl) ?_
      exact cond_T (by show (v.2.2.2 == v.2.2.2) = true; simp) rfl
  | true =>
    cases hfe : findE s.1.2 x with
    | none =>
      obtain ⟨ea, eb⟩ := e13 (by simp [hfe])
      rw [hfe] at hE
      rw [ea, eb]
      cases hfv : (findV s.1.1 x).isSome
      · exact cond_F (hV.trans hfv) (cond_F hE rfl)
      · exact cond_T (hV.trans hfv) (cond_F rfl (cond_F hE rfl))
    | some v =>
      rw [hfe] at hE
      have ge := hwf.d.ge v (findE_mem hfe)
      have ea : setR s (opL x true tx) = (((s.1.1.map (setV (opL x true tx)), s.1.2.map (setE (opL x true tx))), s.2), (0, ())) := setR_there (by show (findE s.1.2 x).isSome = true; rw [hfe]; rfl)
      have eb : setR s (opA x true n) = (((s.1.1.map (setV (opA x true n)), s.1.2.map (setE (opA x true n))), s.2), (0, ())) := setR_there (by show (findE s.1.2 x).isSome = true; rw [hfe]; rfl)
      have la := lay_of hwf hbs (by omega) (mayOp_L hm hml) (by simp [opL]) ea
      have lb := lay_of hwf hbs (by omega) (mayOp_A hm hma) (by simp [opA]) eb
      have va : findE (s.1.2.map (setE (opL x true tx))) x = some (setE (opL x true tx) v) := by rw [findE_map (setE_id _), hfe]; rfl
      have vb : findE (s.1.2.map (setE (opA x true n))) x = some (setE (opA x true n) v) := by rw [findE_map (setE_id _), hfe]; rfl
      have hvx := findE_id hfe
      have ec : setR ((s.1.1.map (setV (opL x true tx)), s.1.2.map (setE (opL x true tx))), s.2) (opL x true v.2.1) = (s, (0, ())) := by
        rw [setR_there (by show (findE (s.1.2.map (setE (opL x true tx))) x).isSome = true; rw [va]; rfl)]
        rw [set_back hwf (o := opL x true tx) (p := opL x true v.2.1) rfl rfl rfl (fun u hu k => by cases k) (fun u hu _ => by rw [show findE s.1.2 x = some u from hu] at hfe; cases hfe; exact ⟨fun _ => rfl, fun k => absurd rfl k⟩)]
      have ed : setR ((s.1.1.map (setV (opA x true n)), s.1.2.map (setE (opA x true n))), s.2) (opA x true v.2.2) = (s, (0, ())) := by
        rw [setR_there (by show (findE (s.1.2.map (setE (opA x true n))) x).isSome = true; rw [vb]; rfl)]
        rw [set_back hwf (o := opA x true n) (p := opA x true v.2.2) rfl rfl rfl (fun u hu k => by cases k) (fun u hu _ => by rw [show findE s.1.2 x = some u from hu] at hfe; cases hfe; exact ⟨fun k => (by cases k), fun _ => rfl⟩)]
      have hsv : setE (opA x true n) v = (v.1, (v.2.1, n)) := by rw [setE_at (o := opA x true n) rfl hvx]; rfl
      cases hfv : (findV s.1.1 x).isSome
      · refine cond_F (hV.trans hfv) (cond_T hE (cond_F rfl (cond_T rfl ?_)))
        rw [ea, eb, show edge s.1 x = some v from hfe]
        refine bind_of ((step ((s.1.1.map (setV (opL x true tx)), s.1.2.map (setE (opL x true tx))), s.2) (opL x true v.2.1) la (by simp [opL]) (fit_L ge.l) (mayOp_L hm ge.l)).trans (congrArg (fun r => some (r, ())) ec)) ?_
        refine bind_of ((step ((s.1.1.map (setV (opA x true n)), s.1.2.map (setE (opA x true n))), s.2) (opA x true v.2.2) lb (by simp [opA]) (fit_A ge.a) (mayOp_A hm ge.a)).trans (congrArg (fun r => some (r, ())) ed)) ?_
        refine bind_of (fx16 hG s s hsm (by omega)) ?_
        refine bind_of (fx16 hG s s hsm (by omega)) ?_
        refine bind_of (fx18 (hG _ _) (s.1.1.map (setV (opL x true tx)), s.1.2.map (setE (opL x true tx))) x (by simp; omega)) ?_
        refine bind_of (fx21 (hG _ _) (s.1.1.map (setV (opA x true n)), s.1.2.map (setE (opA x true n))) x (by simp; omega)) ?_
        rw [show edge (s.1.1.map (setV (opA x true n)), s.1.2.map (setE (opA x true n))) x = some (setE (opA x true n) v) from vb, hsv]
        refine cond_T rfl (cond_F rfl (cond_T (by show (n == n) = true; simp) ?_))
        refine chain8 (by rw [decide_eq_true (rfl : s = s)]; rfl) ?_
        exact congrArg (fun b : Bool => some ((b, ()), ())) (show (v.2.1 == v.2.1) = true by rw [beqS]; simp)
      · refine cond_T (hV.trans hfv) (cond_F rfl (cond_T hE (cond_F rfl (cond_T rfl ?_))))
        rw [ea, eb, show edge s.1 x = some v from hfe]
        refine bind_of ((step ((s.1.1.map (setV (opL x true tx)), s.1.2.map (setE (opL x true tx))), s.2) (opL x true v.2.1) la (by simp [opL]) (fit_L ge.l) (mayOp_L hm ge.l)).trans (congrArg (fun r => some (r, ())) ec)) ?_
        refine bind_of ((step ((s.1.1.map (setV (opA x true n)), s.1.2.map (setE (opA x true n))), s.2) (opA x true v.2.2) lb (by simp [opA]) (fit_A ge.a) (mayOp_A hm ge.a)).trans (congrArg (fun r => some (r, ())) ed)) ?_
        refine bind_of (fx16 hG s s hsm (by omega)) ?_
        refine bind_of (fx16 hG s s hsm (by omega)) ?_
        refine bind_of (fx18 (hG _ _) (s.1.1.map (setV (opL x true tx)), s.1.2.map (setE (opL x true tx))) x (by simp; omega)) ?_
        refine bind_of (fx21 (hG _ _) (s.1.1.map (setV (opA x true n)), s.1.2.map (setE (opA x true n))) x (by simp; omega)) ?_
        rw [show edge (s.1.1.map (setV (opA x true n)), s.1.2.map (setE (opA x true n))) x = some (setE (opA x true n) v) from vb, hsv]
        refine cond_T rfl (cond_F rfl (cond_T (by show (n == n) = true; simp) ?_))
        refine chain8 (by rw [decide_eq_true (rfl : s = s)]; rfl) ?_
        exact congrArg (fun b : Bool => some ((b, ()), ())) (show (v.2.1 == v.2.1) = true by rw [beqS]; simp)
theorem law7 (l : List (List OpT)) (x : ID) (y : k68.T) (_ : wfK (.sl k75) l) (_ : wfK k29 x) (_ : wfK k68 y) (hb : bulkK (.sl k75) l + bulkK k29 x + bulkK k68 y ≤ 1048576) : FX NoG 7 sg7 ((l, x, y, ()), ()) = some ((true, ()), ()) := by
  obtain ⟨h1, h2⟩ := edits_small (l := l) (m := 1048576) (by omega)
  obtain ⟨tx, n, oe⟩ := y
  have h3 : bulkK k68 (tx, (n, oe)) = tx.size + 1 + (1 + 1) := rfl
  exact pure7 (fun _ _ => rfl) l x tx n oe (by omega) (fun e he o ho => Nat.le_trans (h2 e he o ho) (by omega)) (by omega)
end Go.Vs

set_option linter.unusedVariables false
set_option linter.unusedSimpArgs false
namespace Go.Vs
open Go.Proofs
variable {G : (f : FuncId) → (g : Sig) → Option (g.A → Option g.B)}

theorem ends_length (l : List EdgeT) : (ends l).length = 2 * l.length := by
  induction l with
  | nil => rfl
  | cons e r ih => rw [ends_cons]; simp [ih]; omega
theorem ring_le {l : List Vert} {v : Vert} (h : v ∈ l) : v.2.1.length ≤ (darts l).length := by
  obtain ⟨a, b, rfl⟩ := List.append_of_mem h
  rw [darts_app, darts_cons]; simp; omega
theorem Wf.ring80 {d : Diag} (h : Wf d) : ∀ v ∈ d.1, v.2.1.length ≤ 80 := fun v hv => by
  have h1 := ring_le hv
  have h2 := h.pd.length_eq
  have h3 := h.ne
  rw [ends_length] at h2; omega
theorem Wf.sm {d : Diag} (h : Wf d) : Sm d := ⟨by have := h.nv; omega, by have := h.ne; omega, fun v hv => by have := h.ring80 v hv; omega⟩
theorem Wf.small {d : Diag} (h : Wf d) : Sv d.1 := ⟨by have := h.nv; omega, fun v hv => by have := h.ring80 v hv; omega⟩
theorem doneP_new (s : StateT) (o : OpT) : doneP (newVP (workOf s) (oId o, ([], (e0, 0)))).1 (newVP (workOf s) (oId o, ([], (e0, 0)))).2 = addVR s o := by
  by_cases hh : (findV s.1.1 (oId o)).isSome = true
  · have a : newVP (workOf s) (oId o, ([], (e0, 0))) = (12, workOf s) := if_pos hh
    have b : addVR s o = (zS, (12, ())) := if_pos hh
    rw [a, b]; rfl
  by_cases h : 24 ≤ s.1.1.length
  · have a : newVP (workOf s) (oId o, ([], (e0, 0))) = (3, workOf s) := (if_neg hh).trans (if_pos h)
    have b : addVR s o = (zS, (3, ())) := (if_neg hh).trans (if_pos h)
    rw [a, b]; rfl
  · have a : newVP (workOf s) (oId o, ([], (e0, 0))) = (0, (addV (oId o, ([], (e0, 0))) (workOf s).1, (workOf s).2)) := (if_neg hh).trans (if_neg h)
    have b : addVR s o = (((addV (oId o, ([], (e0, 0))) s.1.1, s.1.2), s.2), (0, ())) := (if_neg hh).trans (if_neg h)
    rw [a, b]; rfl
theorem doneP_rem {s : StateT} (h : WfS s) (o : OpT) : doneP (remVP (workOf s) (oId o)).1 (remVP (workOf s) (oId o)).2 = remVR s o := by
  unfold remVP remVR vertex
  show doneP (match findV s.1.1 (oId o) with | none => (13, workOf s) | some v => if 0 < v.2.1.length then (14, workOf s) else (0, (dropV s.1.1 (oId o), (s.1.2, (s.2, ())))) : Int × WorkT).1 (match findV s.1.1 (oId o) with | none => (13, workOf s) | some v => if 0 < v.2.1.length then (14, workOf s) else (0, (dropV s.1.1 (oId o), (s.1.2, (s.2, ())))) : Int × WorkT).2 = _
  cases findV s.1.1 (oId o) with
  | none => rfl
  | some v =>
    simp only
    by_cases hl : 0 < v.2.1.length
    · rw [if_pos hl, if_pos hl]; rfl
    · rw [if_neg hl, if_neg hl]
      unfold without
      rw [drop_zE h.d.ge]; rfl
/-- What a kind of operation does, where it may be. -/
def kindR (s : StateT) (o : OpT) : StateT × (Int × Unit) :=
  if o.1 = 1 then addVR s o else if o.1 = 2 then remVR s o else if o.1 = 3 then linkR s o else if o.1 = 4 then cutR s o else if o.1 = 5 then splitR s o else if o.1 = 6 then smoothR s o else setR s o
theorem oneR_kind (s : StateT) (o : OpT) : oneR s o = if mayOp o ≠ 0 then (zS, (mayOp o, ())) else kindR s o := rfl
theorem fx66_but (hG : ∀ f g, G f g = none) (s : StateT) (o : OpT) (h : WfS s) (hm : mayOp o = 0) (h3 : o.1 = 3 → ∃ (e : Int) (w : WorkT), FX G 92 sg92 ((o, ()), (workOf s, ())) = some ((e, ()), (w, ())) ∧ doneP e w = linkR s o) :
    ∃ (e : Int) (w : WorkT), FX G 66 sg66 ((o, ()), (workOf s, ())) = some ((e, ()), (w, ())) ∧ doneP e w = kindR s o := by
  have hk := may_kind hm
  have hsv := h.d.small
  have hnv := h.d.nv; have hne := h.d.ne
  have start : ∀ (e : Int) (w : WorkT), nfE 66 sg66 Tryz.f66 (FX G) (LX G 66 sg66 Tryz.f66) ((o, ()), (workOf s, ())) = some ((e, ()), (w, ())) → FX G 66 sg66 ((o, ()), (workOf s, ())) = some ((e, ()), (w, ())) := fun e w a =>
    fx_of (fn := Tryz.f66) (hG _ _) (by kernel_rfl) (by kernel_rfl) a
  unfold kindR
  by_cases h1 : o.1 = 1
  · rw [if_pos h1]
    refine ⟨_, _, start _ _ ((nf66 _ _ _).trans (cond_T (keq h1) (bind_of (fx90 hG (workOf s) (oId o, ([], (e0, 0))) h.d.sv hsv.n) rfl))), ?_⟩
    exact doneP_new s o
  rw [if_neg h1]
  by_cases h2 : o.1 = 2
  · rw [if_pos h2]
    refine ⟨_, _, start _ _ ((nf66 _ _ _).trans (cond_F (kne h1) (cond_T (keq h2) (bind_of (fx91 hG (workOf s) o h.d.sv hsv.n) rfl)))), ?_⟩
    exact doneP_rem h o
  rw [if_neg h2]
  by_cases hk3 : o.1 = 3
  · rw [if_pos hk3]
    obtain ⟨e, w, a, b⟩ := h3 hk3
    exact ⟨e, w, start _ _ ((nf66 _ _ _).trans (cond_F (kne h1) (cond_F (kne h2) (cond_T (keq hk3) (bind_of a rfl))))), b⟩
  rw [if_neg hk3]
  by_cases hk4 : o.1 = 4
  · rw [if_pos hk4]
    obtain ⟨e, w, a, b⟩ := fx93 hG s o h hsv
    exact ⟨e, w, start _ _ ((nf66 _ _ _).trans (cond_F (kne h1) (cond_F (kne h2) (cond_F (kne hk3) (cond_T (keq hk4) (bind_of a rfl)))))), b⟩
  rw [if_neg hk4]
  by_cases hk5 : o.1 = 5
  · rw [if_pos hk5]
    obtain ⟨e, w, a, b⟩ := fx94 hG s o h hsv hm hk5
    exact ⟨e, w, start _ _ ((nf66 _ _ _).trans (cond_F (kne h1) (cond_F (kne h2) (cond_F (kne hk3) (cond_F (kne hk4) (cond_T (keq hk5) (bind_of a rfl))))))), b⟩
  rw [if_neg hk5]
  by_cases hk6 : o.1 = 6
  · rw [if_pos hk6]
    obtain ⟨e, w, a, b⟩ := fx95 hG s o h hsv
    exact ⟨e, w, start _ _ ((nf66 _ _ _).trans (cond_F (kne h1) (cond_F (kne h2) (cond_F (kne hk3) (cond_F (kne hk4) (cond_F (kne hk5) (cond_T (keq hk6) (bind_of a rfl)))))))), b⟩
  rw [if_neg hk6]
  refine ⟨_, _, fx66_set hG (workOf s) o (by omega) h.d.sv h.d.se hsv.n (by show s.1.2.length ≤ _; omega), ?_⟩
  exact setP_setR s o
/-- One operation is done as the document's reference does it. -/
theorem fx14_but (hG : ∀ f g, G f g = none) (s : StateT) (o : OpT) (h : WfS s) (hf : Fit o) (h3 : mayOp o = 0 → o.1 = 3 → ∃ (e : Int) (w : WorkT), FX G 92 sg92 ((o, ()), (workOf s, ())) = some ((e, ()), (w, ())) ∧ doneP e w = linkR s o) :
    FX G 14 sg14 ((s, o, ()), ()) = some (oneR s o, ()) := by
  rw [oneR_kind]
  have hn := h.n
  by_cases hm : mayOp o = 0
  · obtain ⟨e, w, a, b⟩ := fx66_but hG s o h hm (h3 hm)
    refine (fx14_of hG s o (fx43 hG o hf) h.d.sm (by omega) (fun _ => a)).trans ?_
    rw [hm, if_neg (by simp), b]; rfl
  · rw [if_pos hm]
    refine fx_of (fn := Tryz.f14) (hG _ _) (by kernel_rfl) (by kernel_rfl) ((nf14 _ _ _).trans ?_)
    refine bind_of (fx43 hG o hf) ?_
    exact cond_T (by simpa using hm) rfl
end Go.Vs

set_option linter.unusedVariables false
set_option linter.unusedSimpArgs false
namespace Go.Vs
open Go.Proofs

theorem rot_ge (row : List Dart) (k : Nat) {i : Nat} (hk : k ≤ row.length) (hi : i < row.length) : (rot row k)[i]? = row[(k + i) % row.length]? := rot_get hk hi
theorem rot_ext {a b : List Dart} {k l : Nat} (hlen : a.length = b.length) (hk : k ≤ a.length) (hl : l ≤ b.length) (h : ∀ i, i < a.length → a[(k + i) % a.length]? = b[(l + i) % b.length]?) : rot a k = rot b l := by
  apply List.ext_getElem?
  intro i
  by_cases hi : i < a.length
  · rw [rot_get hk hi, rot_get hl (by omega)]; exact h i hi
  · rw [List.getElem?_eq_none (by rw [rot_length]; omega), List.getElem?_eq_none (by rw [rot_length]; omega)]
theorem rot_rot {row : List Dart} {j m : Nat} (hj : j ≤ row.length) (hm : m ≤ row.length) (h0 : 0 < row.length) : rot (rot row j) m = rot row ((j + m) % row.length) := by
  apply List.ext_getElem?
  intro i
  have hl : (rot row j).length = row.length := rot_length _ _
  have hp := Nat.mod_lt (j + m) h0
  by_cases hi : i < row.length
  · rw [rot_get (by omega) (by omega), hl, rot_get (by omega) (Nat.mod_lt _ h0), rot_get (Nat.le_of_lt hp) hi]
    congr 1
    simp only [Nat.add_mod_mod, Nat.mod_add_mod, Nat.add_assoc]
  · rw [List.getElem?_eq_none (by rw [rot_length, rot_length]; omega), List.getElem?_eq_none (by rw [rot_length]; omega)]
theorem nodup_inj {row : List Dart} (hn : row.Nodup) {i j : Nat} {hi : i < row.length} {hj : j < row.length} (h : row[i] = row[j]) : i = j := by
  rcases Nat.lt_trichotomy i j with k | k | k
  · exact absurd h (List.pairwise_iff_getElem.1 hn i j hi hj k)
  · exact k
  · exact absurd h.symm (List.pairwise_iff_getElem.1 hn j i hj hi k)
theorem nodup_get {row : List Dart} (hn : row.Nodup) {i j : Nat} {x : Dart} (hi : row[i]? = some x) (hj : row[j]? = some x) : i = j := by
  obtain ⟨h1, h2⟩ := List.getElem?_eq_some_iff.1 hi
  obtain ⟨h3, h4⟩ := List.getElem?_eq_some_iff.1 hj
  exact nodup_inj hn (h2.trans h4.symm)
/-- Turned, a ring that was turned before is the same. -/
theorem turn_rot {row : List Dart} (hn : row.Nodup) {j : Nat} (hj : j ≤ row.length) : turn (rot row j) = turn row := by
  by_cases h0 : row.length = 0
  · have : row = [] := by simpa using h0
    subst this
    have : j = 0 := by simpa using hj
    subst this; rfl
  have hp : 0 < row.length := by omega
  have hl : (rot row j).length = row.length := rot_length _ _
  have hm := mini_lt row row 0 0 hp (by omega)
  have hm2 := mini_lt (rot row j) (rot row j) 0 0 (by omega) (by omega)
  have l1 := mini_least hp
  have l2 := mini_least (row := rot row j) (by omega)
  unfold turn
  rw [rot_rot hj (by omega) hp]
  generalize mini (rot row j) (rot row j) 0 0 = m' at *
  generalize mini row row 0 0 = m at *
  rw [hl] at hm2
  have hx : (rot row j)[m']? = row[(j + m') % row.length]? := rot_get hj hm2
  have hq := Nat.mod_lt (j + m') hp
  rw [getD_of hm] at l1
  rw [getD_of (by omega)] at l2
  have e1 : (rot row j)[m']'(by omega) = row[(j + m') % row.length] := by
    rw [List.getElem?_eq_getElem (by omega), List.getElem?_eq_getElem hq] at hx
    exact Option.some.inj hx
  rw [e1] at l2
  have h1 := l1.1 _ hq
  have h2 : ltD row[m] row[(j + m') % row.length] = false := by
    have hmem : row[m] ∈ rot row j := mem_rot.2 (List.getElem_mem hm)
    obtain ⟨t, ht, he⟩ := List.getElem_of_mem hmem
    rw [← he]; exact l2.1 t ht
  have heq : row[(j + m') % row.length] = row[m] := Classical.byContradiction fun k => by
    have := ltD_total h1 k
    rw [h2] at this; cases this
  have := nodup_inj hn heq
  rw [this]
theorem turn_is_rot (row : List Dart) : ∃ j, j ≤ row.length ∧ turn row = rot row j := by
  by_cases h0 : row.length = 0
  · have : row = [] := by simpa using h0
    subst this; exact ⟨0, by simp, rfl⟩
  · exact ⟨mini row row 0 0, Nat.le_of_lt (mini_lt row row 0 0 (by omega) (by omega)), rfl⟩
theorem rot_set {row : List Dart} {j t k : Nat} (hj : j ≤ row.length) (ht : t < row.length) (hk : (j + t) % row.length = k) (x : Dart) : (rot row j).set t x = rot (row.set k x) j := by
  have h0 : 0 < row.length := by omega
  have hl : (rot row j).length = row.length := rot_length _ _
  apply List.ext_getElem?
  intro i
  by_cases hi : i < row.length
  · rw [List.getElem?_set, hl, rot_get (row := row.set k x) (by rw [List.length_set]; exact hj) (by rw [List.length_set]; exact hi), List.length_set, List.getElem?_set]
    have hlt := Nat.mod_lt (j + i) h0
    by_cases hit : t = i
    · subst hit
      rw [if_pos rfl, if_pos ht, if_pos hk.symm, if_pos (by rw [← hk]; exact Nat.mod_lt _ h0)]
    · rw [if_neg hit, if_neg, rot_get hj hi]
      intro hkk
      apply hit
      rw [← hk] at hkk
      by_cases h1 : j + t < row.length <;> by_cases h2 : j + i < row.length
      · rw [Nat.mod_eq_of_lt h1, Nat.mod_eq_of_lt h2] at hkk; omega
      · rw [Nat.mod_eq_of_lt h1, Nat.mod_eq_sub_mod (by omega), Nat.mod_eq_of_lt (by omega)] at hkk; omega
      · rw [Nat.mod_eq_of_lt h2, Nat.mod_eq_sub_mod (by omega), Nat.mod_eq_of_lt (by omega)] at hkk; omega
      · rw [Nat.mod_eq_sub_mod (by omega), Nat.mod_eq_of_lt (by omega), Nat.mod_eq_sub_mod (by omega), Nat.mod_eq_of_lt (by omega)] at hkk; omega
  · rw [List.getElem?_eq_none (by rw [List.length_set, rot_length]; omega), List.getElem?_eq_none (by rw [rot_length, List.length_set]; omega)]
theorem set_nodup {row : List Dart} (hn : row.Nodup) {k : Nat} {m y : Dart} (hk : row[k]? = some m) (hy : y ∉ row) : (row.set k y).Nodup := by
  obtain ⟨h1, h2⟩ := List.getElem?_eq_some_iff.1 hk
  rw [List.set_eq_take_append_cons_drop, if_pos h1]
  have p : (row.take k ++ y :: row.drop (k + 1)).Perm (y :: (row.take k ++ row.drop (k + 1))) := List.perm_middle
  refine p.nodup_iff.2 (List.nodup_cons.2 ⟨fun h => hy ?_, ?_⟩)
  · rcases List.mem_append.1 h with h | h
    · exact List.mem_of_mem_take h
    · exact List.mem_of_mem_drop h
  · refine List.Sublist.nodup ?_ hn
    conv => rhs; rw [← List.take_append_drop k row]
    refine List.Sublist.append (List.Sublist.refl _) ?_
    exact (List.drop_sublist_drop_left row (show k ≤ k + 1 by omega))
theorem idx_get {row : List Dart} (hn : row.Nodup) {k : Nat} {x : Dart} (hk : row[k]? = some x) : idx x row 0 = (k : Int) := by
  have := idx_at (d := x) (row := row) (k := k) (i := 0) hk (fun j hj he => by have := nodup_get hn hk he; omega)
  omega
/-- A dart put into another one's place, and that one put back. -/
theorem swap_back {row : List Dart} (hn : row.Nodup) (ht : turn row = row) {m y : Dart} (hm : m ∈ row) (hy : y ∉ row) : swapR (swapR row m y) y m = row := by
  obtain ⟨k, hk⟩ := List.getElem?_of_mem hm
  have hkl := (List.getElem?_eq_some_iff.1 hk).1
  have h0 : 0 < row.length := by omega
  have e1 : swapR row m y = turn (row.set k y) := by
    unfold swapR; rw [if_pos ⟨hm, hy⟩, idx_get hn hk, Int.toNat_natCast]
  have hn2 := set_nodup hn hk hy
  have hl : (row.set k y).length = row.length := List.length_set
  obtain ⟨j, hj, hr⟩ := turn_is_rot (row.set k y)
  rw [e1, hr]
  have hn3 : (rot (row.set k y) j).Nodup := by
    have : (rot (row.set k y) j).Perm (row.set k y) := by
      unfold rot; exact List.perm_append_comm.trans (List.Perm.of_eq (List.take_append_drop _ _))
    exact this.nodup_iff.2 hn2
  have hyk : (row.set k y)[k]? = some y := by rw [List.getElem?_set, if_pos rfl, if_pos hkl]
  have hym : y ∈ rot (row.set k y) j := mem_rot.2 (List.mem_of_getElem? hyk)
  have hmy : m ≠ y := fun e => hy (e ▸ hm)
  have hmm : m ∉ rot (row.set k y) j := fun h => by
    have h := mem_rot.1 h
    obtain ⟨i, hi⟩ := List.getElem?_of_mem h
    rw [List.getElem?_set] at hi
    split at hi
    · exact hmy (by simpa using hi.symm)
    · rename_i hne
      exact hne (nodup_get hn hk hi)
  obtain ⟨t, ht2⟩ := List.getElem?_of_mem hym
  have htl := (List.getElem?_eq_some_iff.1 ht2).1
  rw [rot_length] at htl
  unfold swapR
  rw [if_pos ⟨hym, hmm⟩, idx_get hn3 ht2, Int.toNat_natCast]
  have hjt : (j + t) % (row.set k y).length = k := by
    rw [rot_get hj htl] at ht2
    exact nodup_get hn2 ht2 hyk
  rw [rot_set hj htl hjt, List.set_set]
  have e2 : row.set k m = row := set_self hk
  rw [e2]
  rw [turn_rot hn (by omega), ht]
end Go.Vs

set_option linter.unusedVariables false
set_option linter.unusedSimpArgs false
namespace Go.Vs
open Go.Proofs
variable {G : (f : FuncId) → (g : Sig) → Option (g.A → Option g.B)}

def opSp (x v : ID) (n : Int) : OpT := (5, (x, (v, (v, (zC, (zC, (false, (e0, n))))))))
def opSm (v w : ID) : OpT := (6, (v, (zI, (w, (zC, (zC, (false, (e0, 0))))))))
theorem mayOp_Sp {x v : ID} {n : Int} (hx : mayI x = true) (hv : mayI v = true) (h0 : 0 ≤ n) (h3 : n ≤ 3) : mayOp (opSp x v n) = 0 := by
  unfold mayOp
  rw [if_neg (by simp [opSp]), if_neg (by simp [opSp]), if_neg (by simp [opSp, hx]), if_neg, if_neg (by simp [opSp]), if_pos (show (opSp x v n).1 = 5 from rfl)]
  · exact if_pos ⟨hv, hv, h0, h3⟩
  intro h
  have : eqOp (restR (opSp x v n)) zOp = true := (eqOp_iff _ _).2 rfl
  rw [this] at h; cases h
theorem mayOp_Sm {v w : ID} (hv : mayI v = true) (hw : mayI w = true) : mayOp (opSm v w) = 0 := by
  unfold mayOp
  rw [if_neg (by simp [opSm]), if_neg (by simp [opSm]), if_neg (by simp [opSm, hv]), if_neg, if_neg (by simp [opSm]), if_neg (by simp [opSm]), if_pos (show (opSm v w).1 = 6 from rfl)]
  · exact if_pos hw
  intro h
  have : eqOp (restR (opSm v w)) zOp = true := (eqOp_iff _ _).2 rfl
  rw [this] at h; cases h
theorem fit_Sp {x v : ID} {n : Int} (h0 : 0 ≤ n) (h3 : n ≤ 3) : Fit (opSp x v n) := ⟨inR0, inR0, by show inR n; unfold inR; omega, by show e0.size ≤ _; simp [e0, ByteArray.size]⟩
theorem fit_Sm {v w : ID} : Fit (opSm v w) := ⟨inR0, inR0, inR0, by show e0.size ≤ _; simp [e0, ByteArray.size]⟩
theorem and3_range (n : Int) : 0 ≤ bitsI .and .i64 n 3 ∧ bitsI .and .i64 n 3 ≤ 3 := by
  have e : bitsI .and .i64 n 3 = (BitVec.ofInt 64 n &&& BitVec.ofInt 64 3).toInt := by unfold bitsI; exact wrap_u _
  rw [e]
  generalize BitVec.ofInt 64 n = x
  have h : (x &&& BitVec.ofInt 64 3).toNat ≤ 3 := by rw [BitVec.toNat_and]; exact Nat.and_le_right
  rw [BitVec.toInt_eq_toNat_cond]
  split <;> omega
/-- The two darts of a vertex that was split off, turned. -/
theorem turn_two (m k : Dart) : turn [m, k] = [m, k] ∨ turn [m, k] = [k, m] := by
  have hm := mini_lt [m, k] [m, k] 0 0 (by simp) (by simp)
  have : mini [m, k] [m, k] 0 0 = 0 ∨ mini [m, k] [m, k] 0 0 = 1 := by simp at hm; omega
  unfold turn
  rcases this with h | h <;> rw [h]
  · exact .inl rfl
  · exact .inr rfl
theorem dropE_addE (v : EdgeT) : ∀ {l : List EdgeT}, findE l v.1 = none → dropE (addE v l) v.1 = l
  | [], _ => by simp [addE, dropE]
  | w :: r, hf => by
    have hne : ¬ w.1 = v.1 := fun e => by simp [findE, e] at hf
    have hfr : findE r v.1 = none := by simpa [findE, List.find?_cons, hne] using hf
    unfold addE
    split
    · unfold dropE
      rw [List.filter_cons_of_neg (by simp)]
      exact dropE_none hf
    · have := dropE_addE v hfr
      unfold dropE at this ⊢
      rw [List.filter_cons_of_pos (by simpa using hne), this]
/-- Split and smoothed, a diagram is as it was. -/
theorem split_smooth {s : StateT} (h : WfS s) {x v : ID} {n : Int} (hv : mayI v = true) (h0 : 0 ≤ n) (h3 : n ≤ 3) (hx : (findE s.1.2 x).isSome = true) (hnv : findV s.1.1 v = none) (hne : findE s.1.2 v = none) (t : StateT) (ht : t = (splitD s (opSp x v n), s.2)) :
    smD t (opSm v v) (spM (opSp x v n)) (spK (opSp x v n)) = s.1 := by
  obtain ⟨s1, s2⟩ := side_val h0 h3
  obtain ⟨m, hm⟩ : ∃ m : Dart, m = spM (opSp x v n) := ⟨_, rfl⟩
  obtain ⟨k, hk⟩ : ∃ k : Dart, k = spK (opSp x v n) := ⟨_, rfl⟩
  have hm1 : m.1 = x := by rw [hm]; rfl
  have hk1 : k.1 = v := by rw [hk]; rfl
  have hmd : m ∈ darts s.1.1 := by rw [hm]; exact h.d.is_end hx s1
  have hyd : otherD k ∉ darts s.1.1 := by rw [hk]; exact h.d.not_end hne _
  obtain ⟨p1, q1⟩ := swapped_perm h.d.rw hmd hyd
  obtain ⟨u, hu, hmu⟩ := mem_darts.1 hmd
  have hyu : otherD k ∉ u.2.1 := fun c => hyd (mem_darts.2 ⟨u, hu, c⟩)
  have hnv' : findV (swapped s.1 m (otherD k)).1 v = none := by
    unfold swapped Vs.ringed
    rw [findV_map (reR_id _ _), hnv]; rfl
  have e1 : without t.1 v zI = ((swapped s.1 m (otherD k)).1, addE (v, (e0, 0)) s.1.2) := by
    have hz : dropE (addE (v, (e0, 0)) s.1.2) zI = addE (v, (e0, 0)) s.1.2 := drop_zE (fun e he => by
      rcases mem_addE.1 he with rfl | he
      · exact ⟨hv, mayL_zero, mayA_zero⟩
      · exact h.d.ge e he)
    rw [ht]
    show (dropV (addV (v, (turn [spM (opSp x v n), spK (opSp x v n)], (e0, 0))) (swapped s.1 (spM (opSp x v n)) (otherD (spK (opSp x v n)))).1) v, dropE (addE (v, (e0, 0)) s.1.2) zI) = _
    rw [← hm, ← hk, hz]
    have := dropV_addV (v, (turn [m, k], (e0, 0))) (l := (swapped s.1 m (otherD k)).1) hnv'
    exact congrArg (fun l : List Vert => ((l, addE (v, (e0, 0)) s.1.2) : Diag)) this
  have e2 : (swapped ((swapped s.1 m (otherD k)).1, addE (v, (e0, 0)) s.1.2) (otherD k) m).1 = s.1.1 := by
    have es : swapped s.1 m (otherD k) = ringed s.1 u.1 (swapR u.2.1 m (otherD k)) := swapped_of h.d.rw _ hu hmu
    obtain ⟨a, b, f1, _, _, f2⟩ := splitV h.d.sv hu
    have f3 := f2 (swapR u.2.1 m (otherD k))
    have es1 : (swapped s.1 m (otherD k)).1 = s.1.1.map (reR u.1 (swapR u.2.1 m (otherD k))) := by rw [es]; rfl
    have hyin : otherD k ∈ swapR u.2.1 m (otherD k) := by
      have p := swapR_perm hmu hyu
      have : otherD k ∈ m :: swapR u.2.1 m (otherD k) := p.mem_iff.1 (List.mem_cons_self ..)
      rcases List.mem_cons.1 this with c | c
      · exact absurd (c ▸ hmu) hyu
      · exact c
    have hu' : (u.1, (swapR u.2.1 m (otherD k), u.2.2)) ∈ (swapped s.1 m (otherD k)).1 := by rw [es1, f3]; simp
    have e3 := swapped_of (d := ((swapped s.1 m (otherD k)).1, addE (v, (e0, 0)) s.1.2)) q1 m hu' hyin
    rw [e3]
    show ((swapped s.1 m (otherD k)).1).map (reR u.1 (swapR (swapR u.2.1 m (otherD k)) (otherD k) m)) = s.1.1
    rw [swap_back (h.d.rw.ring hu) (h.d.gv u hu).t hmu hyu, es1]
    refine map_back (fun w hw => ?_)
    unfold reR
    by_cases hw1 : w.1 = u.1
    · rw [if_pos hw1, if_pos hw1, uniqV h.d.sv hu hw hw1]
    · rw [if_neg hw1, if_neg hw1]
  unfold smD
  show without (swapped (without t.1 v zI) (otherD (spK (opSp x v n))) (spM (opSp x v n))) zI (spK (opSp x v n)).1 = s.1
  rw [e1, ← hm, ← hk, hk1]
  unfold without
  show (dropV (swapped ((swapped s.1 m (otherD k)).1, addE (v, (e0, 0)) s.1.2) (otherD k) m).1 zI, dropE (addE (v, (e0, 0)) s.1.2) v) = s.1
  rw [e2, drop_zV h.d.gv]
  have := dropE_addE (v, (e0, 0)) (l := s.1.2) hne
  exact congrArg (fun l : List EdgeT => ((s.1.1, l) : Diag)) this
theorem fx14_no3 (hG : ∀ f g, G f g = none) (s : StateT) (o : OpT) (h : WfS s) (hf : Fit o) (h3 : o.1 ≠ 3) : FX G 14 sg14 ((s, o, ()), ()) = some (oneR s o, ()) :=
  fx14_but hG s o h hf (fun _ k => absurd k h3)
theorem chain3 {R : Type} {a b c : Bool} {x y r : Option R} (h : (a && (b && c)) = true) (k : x = r) : cond a (cond b (cond c x y) y) y = r := by
  cases a <;> cases b <;> cases c <;> first | exact k | cases h
theorem chain4 {R : Type} {a b c d : Bool} {x y r : Option R} (h : (a && (b && (c && d))) = true) (k : x = r) : cond a (cond b (cond c (cond d x y) y) y) y = r := by
  cases a <;> cases b <;> cases c <;> cases d <;> first | exact k | cases h
theorem pure6 (hG : ∀ f g, G f g = none) (l : List (List OpT)) (x : ID) (n : Int) (hl : l.length ≤ 1073741824) (ht : ∀ e ∈ l, ∀ o ∈ e, textOk o) : FX G 6 sg6 ((l, x, n, ()), ()) = some ((true, ()), ()) := by
  refine fx_of (fn := Tryz.f6) (hG _ _) (by kernel_rfl) (by kernel_rfl) ((nf6 _ _ _).trans ?_)
  refine bind_of (fx12 hG) ?_
  refine bind_of (fx17 hG l hl ht) ?_
  have hwf := WfS.reached l
  generalize reachedR l = s at *
  have hnv := hwf.d.nv; have hne := hwf.d.ne
  refine bind_of (fx21 (hG _ _) s.1 x (by omega)) ?_
  refine bind_of (fx18 (hG _ _) s.1 (8, 1048576) (by omega)) ?_
  refine bind_of (fx21 (hG _ _) s.1 (8, 1048576) (by omega)) ?_
  have hX : (orV zE (edge s.1 x)).2.1 = (findE s.1.2 x).isSome := orV_snd _ _
  have hV : (orV zV (vertex s.1 (8, 1048576))).2.1 = (findV s.1.1 (8, 1048576)).isSome := orV_snd _ _
  have hE : (orV zE (edge s.1 (8, 1048576))).2.1 = (findE s.1.2 (8, 1048576)).isSome := orV_snd _ _
  cases hfx : (findE s.1.2 x).isSome
  case false => exact cond_not_of (hX.trans hfx) rfl
  refine cond_not_of (hX.trans hfx) (cond_F rfl ?_)
  cases hfv : (findV s.1.1 (8, 1048576)).isSome
  case true => exact cond_T (hV.trans hfv) rfl
  refine cond_F (hV.trans hfv) ?_
  cases hfe : (findE s.1.2 (8, 1048576)).isSome
  case true => exact cond_T (hE.trans hfe) rfl
  refine cond_F (hE.trans hfe) ?_
  by_cases h40 : 40 ≤ s.1.2.length
  · exact cond_T (decide_eq_true (show ((s.1.2.length : Nat) : Int) ≥ 40 by omega)) rfl
  refine cond_F (decide_eq_false (show ¬ ((s.1.2.length : Nat) : Int) ≥ 40 by omega)) ?_
  by_cases h24 : 24 ≤ s.1.1.length
  · exact cond_T (decide_eq_true (show ((s.1.1.length : Nat) : Int) ≥ 24 by omega)) rfl
  refine cond_F (decide_eq_false (show ¬ ((s.1.1.length : Nat) : Int) ≥ 24 by omega)) ?_
  obtain ⟨n0, n3⟩ := and3_range n
  have hv0 : findV s.1.1 (8, 1048576) = none := by simpa using hfv
  have he0 : findE s.1.2 (8, 1048576) = none := by simpa using hfe
  obtain ⟨ex, hex⟩ := Option.isSome_iff_exists.1 hfx
  have hxm : mayI x = true := by rw [← findE_id hex]; exact (hwf.d.ge ex (findE_mem hex)).i
  have hvm : mayI (8, 1048576) = true := by decide
  have hxv : x ≠ (8, 1048576) := fun c => by rw [c, he0] at hfx; cases hfx
  obtain ⟨q, hq⟩ : ∃ q : Int, q = bitsI .and .i64 n 3 := ⟨_, rfl⟩
  have m1 := mayOp_Sp (n := q) hxm hvm (by omega) (by omega)
  have f1 := fx14_no3 hG s (opSp x (8, 1048576) q) hwf (fit_Sp (by omega) (by omega)) (by simp [opSp])
  have hone := hwf.one (opSp x (8, 1048576) q)
  obtain ⟨t, htd⟩ : ∃ t : StateT, t = (splitD s (opSp x (8, 1048576) q), s.2) := ⟨_, rfl⟩
  have e1 : oneR s (opSp x (8, 1048576) q) = (t, (0, ())) := by
    rw [oneR_kind, if_neg (by simp [m1]), htd]
    show splitR s (opSp x (8, 1048576) q) = _
    exact (if_neg (show ¬ (findE s.1.2 x).isSome = false by rw [hfx]; simp)).trans ((if_neg (show ¬ (findV s.1.1 (8, 1048576)).isSome = true by rw [hfv]; simp)).trans ((if_neg (show ¬ (findE s.1.2 (8, 1048576)).isSome = true by rw [hfe]; simp)).trans ((if_neg h24).trans (if_neg h40))))
  rw [e1] at f1 hone
  rw [show bitsI .and .i64 ((l, x, n, ()), ()).1.2.2.1 (3 : Int) = q from hq.symm]
  refine bind_of f1 ?_
  have hone : WfS t := hone
  have htn : t.1.1.length ≤ 24 := hone.d.nv
  refine bind_of (fx18 (hG _ _) t.1 (8, 1048576) (by show t.1.1.length ≤ _; omega)) ?_
  obtain ⟨m, hm⟩ : ∃ m : Dart, m = spM (opSp x (8, 1048576) q) := ⟨_, rfl⟩
  obtain ⟨k, hk⟩ : ∃ k : Dart, k = spK (opSp x (8, 1048576) q) := ⟨_, rfl⟩
  have hm1 : m.1 = x := by rw [hm]; rfl
  have hk1 : k.1 = (8, 1048576) := by rw [hk]; rfl
  obtain ⟨w, hw⟩ : ∃ w : Vert, w = ((8, 1048576), (turn [m, k], (e0, 0))) := ⟨_, rfl⟩
  have hfw : findV t.1.1 (8, 1048576) = some w := by
    have hnv' : findV (swapped s.1 m (otherD k)).1 (8, 1048576) = none := by
      unfold swapped Vs.ringed
      rw [findV_map (reR_id _ _), hv0]; rfl
    rw [htd, hw]
    show findV (addV ((8, 1048576), (turn [spM (opSp x (8, 1048576) q), spK (opSp x (8, 1048576) q)], (e0, 0))) (swapped s.1 (spM (opSp x (8, 1048576) q)) (otherD (spK (opSp x (8, 1048576) q)))).1) (8, 1048576) = _
    rw [← hm, ← hk]
    exact findV_addV ((8, 1048576), (turn [m, k], (e0, 0))) hnv'
  rw [show vertex t.1 (8, 1048576) = some w from hfw]
  refine cond_F rfl (cond_F rfl ?_)
  have hwl : w.2.1.length = 2 := by rw [hw]; show (turn [m, k]).length = 2; rw [turn_length]; rfl
  refine cond_F (show (((w.2.1.length : Nat) : Int) != 2) = false by rw [hwl]; rfl) ?_
  -- smoothed
  have hsd := split_smooth hwf (x := x) (v := (8, 1048576)) (n := q) hvm (by omega) (by omega) hfx hv0 he0 t htd
  rw [← hm, ← hk] at hsd
  have m2 := mayOp_Sm (v := (8, 1048576)) (w := (8, 1048576)) hvm hvm
  have f2 := fx14_no3 hG t (opSm (8, 1048576) (8, 1048576)) hone fit_Sm (by simp [opSm])
  have ring : w.2.1 = [m, k] ∨ w.2.1 = [k, m] := by rw [hw]; exact turn_two m k
  have hmk : ¬ m.1 = k.1 := by rw [hm1, hk1]; exact hxv
  have sm : ∀ o : ID, smoothR t (opSm (8, 1048576) o) = if k.1 = o then ((smD t (opSm (8, 1048576) o) m k, smG t.2 m k), (0, ())) else if m.1 = o then ((smD t (opSm (8, 1048576) o) k m, smG t.2 k m), (0, ())) else (zS, (14, ())) := fun o => by
    unfold smoothR
    rw [show vertex t.1 (oId (opSm (8, 1048576) o)) = some w from hfw]
    show (match w.2.1 with | [r0, r1] => smooth2 t (opSm (8, 1048576) o) r0 r1 | _ => (zS, (14, ()))) = _
    rcases ring with r | r <;> rw [r]
    · show smooth2 t (opSm (8, 1048576) o) m k = _
      unfold smooth2
      rw [if_neg hmk]
      show (if m.1 = o then _ else if k.1 = o then _ else _) = _
      by_cases c1 : k.1 = o
      · rw [if_pos c1, if_neg (fun c => hmk (c.trans c1.symm)), if_pos c1]
      · rw [if_neg c1, if_neg c1]
    · show smooth2 t (opSm (8, 1048576) o) k m = _
      unfold smooth2
      rw [if_neg (fun c => hmk c.symm)]
      rfl
  have e2 : ∃ g, oneR t (opSm (8, 1048576) (8, 1048576)) = ((s.1, g), (0, ())) := by
    refine ⟨smG t.2 m k, ?_⟩
    rw [oneR_kind, if_neg (by simp [m2])]
    show smoothR t (opSm (8, 1048576) (8, 1048576)) = _
    rw [sm, if_pos hk1, hsd]
  obtain ⟨g, e2⟩ := e2
  rw [e2] at f2
  have e3 : ∀ no : ID, mayI no = true → no ≠ x → no ≠ (8, 1048576) → FX G 14 sg14 ((t, opSm (8, 1048576) no, ()), ()) = some ((zS, ((14 : Int), ())), ()) := fun no h1 h2 h3 => by
    refine (fx14_no3 hG t (opSm (8, 1048576) no) hone fit_Sm (by simp [opSm])).trans ?_
    rw [oneR_kind, if_neg (by simp [mayOp_Sm hvm h1])]
    show some (smoothR t (opSm (8, 1048576) no), ()) = _
    rw [sm, if_neg (by rw [hk1]; exact fun c => h3 c.symm), if_neg (by rw [hm1]; exact fun c => h2 c.symm)]
  have f27 := fx27 hG s.1 s.1 hwf.d.sm
  have bx : ∀ y : Dart, ((y.1.1 == x.1) && (y.1.2 == x.2)) = decide (y.1 = x) := fun y => beqI y.1 x
  have bv : ∀ y : Dart, ((y.1.1 == (8 : Int)) && (y.1.2 == (1048576 : Int))) = decide (y.1 = (8, 1048576)) := fun y => beqI y.1 (8, 1048576)
  have bz : ((x.1 == (8 : Int)) && (x.2 == (1 : Int))) = decide (x = (8, 1)) := beqI x (8, 1)
  have dT : decide (s.1 = s.1) = true := decide_eq_true rfl
  rcases ring with r | r
  · have g0 : getI w.2.1 (0 : Int) = some m := by rw [r]; rfl
    have g1 : getI w.2.1 (1 : Int) = some k := by rw [r]; rfl
    refine bind_of g0 (cond_T ((bx m).trans (decide_eq_true hm1)) (bind_of g1 (cond_T ((bv k).trans (decide_eq_true hk1)) ?_)))
    refine bind_of f2 (bind_of f27 ?_)
    by_cases hx1 : x = (8, 1)
    · refine cond_T (bz.trans (decide_eq_true hx1)) ?_
      refine bind_of (e3 (8, 2) (by decide) (by rw [hx1]; decide) (by decide)) ?_
      exact chain3 (by rw [dT]; rfl) rfl
    · refine cond_F (bz.trans (decide_eq_false hx1)) ?_
      refine bind_of (e3 (8, 1) (by decide) (fun c => hx1 c.symm) (by decide)) ?_
      exact chain3 (by rw [dT]; rfl) rfl
  · have g0 : getI w.2.1 (0 : Int) = some k := by rw [r]; rfl
    have g1 : getI w.2.1 (1 : Int) = some m := by rw [r]; rfl
    have hkx : ¬ k.1 = x := fun c => hxv (c.symm.trans hk1)
    refine bind_of g0 (cond_F ((bx k).trans (decide_eq_false hkx)) (bind_of g0 (cond_T ((bv k).trans (decide_eq_true hk1)) (bind_of g1 ?_))))
    refine bind_of f2 (bind_of f27 ?_)
    by_cases hx1 : x = (8, 1)
    · refine cond_T (bz.trans (decide_eq_true hx1)) ?_
      refine bind_of (e3 (8, 2) (by decide) (by rw [hx1]; decide) (by decide)) ?_
      exact chain4 (by rw [dT, show ((m.1.1 == x.1) && (m.1.2 == x.2)) = true from (bx m).trans (decide_eq_true hm1)]; rfl) rfl
    · refine cond_F (bz.trans (decide_eq_false hx1)) ?_
      refine bind_of (e3 (8, 1) (by decide) (fun c => hx1 c.symm) (by decide)) ?_
      exact chain4 (by rw [dT, show ((m.1.1 == x.1) && (m.1.2 == x.2)) = true from (bx m).trans (decide_eq_true hm1)]; rfl) rfl
theorem law6 (l : List (List OpT)) (x : ID) (n : Int) (_ : wfK (.sl k75) l) (_ : wfK k29 x) (_ : wfK (.int .i64) n) (hb : bulkK (.sl k75) l + bulkK k29 x + bulkK (.int .i64) n ≤ 1048576) : FX NoG 6 sg6 ((l, x, n, ()), ()) = some ((true, ()), ()) := by
  obtain ⟨h1, h2⟩ := edits_small (l := l) (m := 1048576) (by omega)
  exact pure6 (fun _ _ => rfl) l x n (by omega) (fun e he o ho => Nat.le_trans (h2 e he o ho) (by omega))
end Go.Vs
