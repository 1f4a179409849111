/- Edges cut and split, vertices smoothed: what the program computes. -/
import Derived.Test.YtpldhjjpeldkaaaGreatFormed
import Derived.Test.YtpldhjjpeldkaaaGreatTop

set_option linter.unusedVariables false
set_option linter.unusedSimpArgs false
namespace Go.Vs
open Go.Proofs
variable {G : (f : FuncId) → (g : Sig) → Option (g.A → Option g.B)}
theorem fx155 (hG : ∀ f g, G f g = none) (v : GoneT) (x : Dart) : FX G 155 sg155 ((v, x, ()), ()) = some ((ordD v.1 x, ()), ()) := by
  refine fx_of (fn := Tryz.f155) (hG _ _) (by kernel_rfl) (by kernel_rfl) ((nf155 _ _ _).trans ?_)
  exact bind_of (fx142 hG v.1 x) rfl
/-- How many there are ahead of a name. -/
def cntG (l : List GoneT) (x : Dart) : Nat := l.countP fun v => ltD v.1 x
theorem cntG_le (l : List GoneT) (x : Dart) : cntG l x ≤ l.length := List.countP_le_length
theorem cntG_none {l : List GoneT} {x : Dart} (h : ∀ v ∈ l, ltD v.1 x = false) : cntG l x = 0 := by
  unfold cntG; rw [List.countP_eq_zero]; intro v hv; simp [h v hv]
theorem cntG_spec {x : Dart} : ∀ {l : List GoneT}, SortG l → ∀ (k : Nat) (v : GoneT), l[k]? = some v → (ltD v.1 x = true ↔ k < cntG l x)
  | [], _, k, v, h => by simp at h
  | w :: r, hs, k, v, h => by
    have hw : ∀ {u : GoneT}, u ∈ r → ltD w.1 u.1 = true := fun {u} hu => List.rel_of_pairwise_cons hs hu
    have hr : SortG r := hs.of_cons
    by_cases hlt : ltD w.1 x = true
    · have e : cntG (w :: r) x = cntG r x + 1 := by unfold cntG; rw [List.countP_cons_of_pos (by simpa using hlt)]
      cases k with
      | zero => simp at h; subst h; simp [hlt, e]
      | succ k => have := cntG_spec (x := x) hr k v (by simpa using h); rw [this, e]; omega
    · have hn : ∀ u ∈ w :: r, ltD u.1 x = false := fun u hu => by
        rcases List.mem_cons.1 hu with rfl | hu
        · simpa using hlt
        · rw [Bool.eq_false_iff]; intro h2; exact hlt (ltD_trans (hw hu) h2)
      rw [cntG_none hn, hn v (List.mem_of_getElem? h)]
      simp
theorem lx156154 (hG : ∀ f g, G f g = none) (l : List GoneT) (x : Dart) (hs : SortG l) (hl : l.length ≤ 50000000) : ∀ (n i j : Nat), j - i ≤ n → i ≤ cntG l x → cntG l x ≤ j → j ≤ l.length →
    LX G 156154 sg156154 Tryz.f154 sh156154_0 (seg Tryz.prog 154 0) ((l, (((l.length : Nat) : Int), ((i : Int), ((j : Int), ())))), (((x, ()), ()), ())) = some (((((cntG l x : Nat) : Int), (decide ((l[cntG l x]?).map (·.1) = some x), ())) : Int × (Bool × Unit)), ()) := by
  have hcl := cntG_le l x
  have fin : ∀ (i j : Nat), ¬ (i < j) → i ≤ cntG l x → cntG l x ≤ j → LX G 156154 sg156154 Tryz.f154 sh156154_0 (seg Tryz.prog 154 0) ((l, (((l.length : Nat) : Int), ((i : Int), ((j : Int), ())))), (((x, ()), ()), ())) = some (((((cntG l x : Nat) : Int), (decide ((l[cntG l x]?).map (·.1) = some x), ())) : Int × (Bool × Unit)), ()) := fun i j hij h1 h2 => by
    have hi : i = cntG l x := by omega
    subst hi
    refine lx_of (j := 0) (by kernel_rfl) ((nl156154_0 _ _ _).trans ?_)
    refine cond_F (decide_eq_false (show ¬ (((cntG l x : Nat) : Int) < (j : Int)) by omega)) ?_
    by_cases hc : cntG l x < l.length
    · have hx : l[cntG l x]? = some l[cntG l x] := List.getElem?_eq_getElem hc
      refine cond_T (lt_up hc) ?_
      refine bind_of (getI_of hx) ?_
      refine bind_of (fx155 hG l[cntG l x] x) ?_
      refine congrArg (fun b : Bool => some ((((cntG l x : Nat) : Int), (b, ())), ())) ?_
      rw [hx]
      unfold ordD
      by_cases he : l[cntG l x].1 = x
      · simp [he]
      · simp [he]; split <;> simp
    · refine cond_F (decide_eq_false (show ¬ (((cntG l x : Nat) : Int) < ((l.length : Nat) : Int)) by omega)) ?_
      refine congrArg (fun b : Bool => some ((((cntG l x : Nat) : Int), (b, ())), ())) ?_
      rw [List.getElem?_eq_none (by omega)]; simp
  intro n
  induction n with
  | zero => intro i j hij h1 h2 h3; exact fin i j (by omega) h1 h2
  | succ n ih =>
    intro i j hij h1 h2 h3
    by_cases hlt : i < j
    case neg => exact fin i j hlt h1 h2
    refine lx_of (j := 0) (by kernel_rfl) ((nl156154_0 _ _ _).trans ?_)
    refine cond_T (decide_eq_true (show ((i : Int) < (j : Int)) by omega)) ?_
    refine cond_F rfl ?_
    have hm := mid_eq (i := i) (j := j) (by omega) (by omega)
    have hh : (i + j) / 2 < l.length := by omega
    have hx : l[(i + j) / 2]? = some l[(i + j) / 2] := List.getElem?_eq_getElem hh
    have hsp := cntG_spec (x := x) hs ((i + j) / 2) _ hx
    refine bind_of (show getI l (IntKind.wrap .i64 (shrI .u64 (IntKind.wrap .u64 (IntKind.wrap .i64 ((i : Int) + (j : Int)))) (1 : Int))) = some l[(i + j) / 2] by rw [hm]; exact getI_of hx) ?_
    refine bind_of (fx155 hG l[(i + j) / 2] x) ?_
    by_cases ho : ltD l[(i + j) / 2].1 x = true
    · refine cond_T (decide_eq_true ((ordD_lt _ _).2 ho)) ?_
      have hc := hsp.1 ho
      have hw : IntKind.wrap .i64 (IntKind.wrap .i64 (shrI .u64 (IntKind.wrap .u64 (IntKind.wrap .i64 ((i : Int) + (j : Int)))) (1 : Int)) + 1) = (((i + j) / 2 + 1 : Nat) : Int) := by
        rw [hm]; exact wrap_up hh (by omega)
      have := ih ((i + j) / 2 + 1) j (by omega) (by omega) h2 h3
      rw [← hw] at this
      exact this
    · refine cond_F (decide_eq_false (fun h => ho ((ordD_lt _ _).1 h))) ?_
      have hc : ¬ (i + j) / 2 < cntG l x := fun h => ho (hsp.2 h)
      have := ih i ((i + j) / 2) (by omega) h1 (by omega) (by omega)
      rw [← hm] at this
      exact this
theorem fx156154 (hG : ∀ f g, G f g = none) (l : List GoneT) (x : Dart) (hs : SortG l) (hl : l.length ≤ 50000000) :
    FX G 156154 sg156154 ((l, x, ()), ()) = some (((((cntG l x : Nat) : Int), (decide ((l[cntG l x]?).map (·.1) = some x), ())) : Int × (Bool × Unit)), ()) := by
  refine fx_of (fn := Tryz.f154) (hG _ _) (by kernel_rfl) (by kernel_rfl) ((nf156154 _ _ _).trans ?_)
  exact lx156154 hG l x hs hl l.length 0 l.length (by omega) (by omega) (cntG_le l x) (Nat.le_refl _)
theorem addG_cnt (g : GoneT) : ∀ {l : List GoneT}, SortG l → addG g l = if (l[cntG l g.1]?).map (·.1) = some g.1 then l.set (cntG l g.1) g else l.take (cntG l g.1) ++ (g :: l.drop (cntG l g.1))
  | [], _ => rfl
  | w :: r, hs => by
    have hw : ∀ {u : GoneT}, u ∈ r → ltD w.1 u.1 = true := fun {u} hu => List.rel_of_pairwise_cons hs hu
    have hr : SortG r := List.Pairwise.of_cons hs
    by_cases hlt : ltD w.1 g.1 = true
    · have e : cntG (w :: r) g.1 = cntG r g.1 + 1 := by unfold cntG; rw [List.countP_cons_of_pos (by simpa using hlt)]
      have hne : w.1 ≠ g.1 := fun k => by rw [k, ltD_irrefl] at hlt; cases hlt
      have hno : ¬ ordD g.1 w.1 ≤ 0 := fun k => by
        rcases ordD_le.1 k with k | k
        · exact hne k.symm
        · have := ltD_trans hlt k; rw [ltD_irrefl] at this; cases this
      have ih := addG_cnt g hr
      rw [e, addG, if_neg hno, if_pos hne, ih]
      simp only [List.getElem?_cons_succ, List.set_cons_succ, List.take_succ_cons, List.drop_succ_cons, List.cons_append]
      split <;> rfl
    · have hn : ∀ u ∈ w :: r, ltD u.1 g.1 = false := fun u hu => by
        rcases List.mem_cons.1 hu with rfl | hu
        · simpa using hlt
        · rw [Bool.eq_false_iff]; intro h2; exact hlt (ltD_trans (hw hu) h2)
      rw [cntG_none hn]
      by_cases he : w.1 = g.1
      · have hyes : ordD g.1 w.1 ≤ 0 := ordD_le.2 (.inl he.symm)
        have h1 : fltG g (w :: r) = r := by
          have : fltG g (w :: r) = fltG g r := by unfold fltG; rw [List.filter_cons_of_neg (by simp [he])]
          rw [this]
          exact fltG_none (fun q hq k => by have := hw hq; rw [k, he, ltD_irrefl] at this; cases this)
        rw [addG, if_pos hyes, h1, if_pos (by simp [he])]; rfl
      · have hgt : ltD g.1 w.1 = true := ltD_total (by simpa using hlt) he
        have hyes : ordD g.1 w.1 ≤ 0 := ordD_le.2 (.inr hgt)
        have h1 : fltG g (w :: r) = w :: r := fltG_none (fun q hq k => by
          rcases List.mem_cons.1 hq with rfl | hq
          · exact he k
          · have := ltD_trans hgt (hw hq); rw [k, ltD_irrefl] at this; cases this)
        rw [addG, if_pos hyes, h1, if_neg (by simp [he])]; rfl
theorem findG_cnt {x : Dart} : ∀ {l : List GoneT}, SortG l → (findG l x).isSome = decide ((l[cntG l x]?).map (·.1) = some x)
  | [], _ => rfl
  | w :: r, hs => by
    have hw : ∀ {u : GoneT}, u ∈ r → ltD w.1 u.1 = true := fun {u} hu => List.rel_of_pairwise_cons hs hu
    have hr : SortG r := List.Pairwise.of_cons hs
    rw [findG_cons]
    by_cases hlt : ltD w.1 x = true
    · have e : cntG (w :: r) x = cntG r x + 1 := by unfold cntG; rw [List.countP_cons_of_pos (by simpa using hlt)]
      have hne : w.1 ≠ x := fun k => by rw [k, ltD_irrefl] at hlt; cases hlt
      rw [e, if_neg hne, findG_cnt hr, List.getElem?_cons_succ]
    · have hn : ∀ u ∈ w :: r, ltD u.1 x = false := fun u hu => by
        rcases List.mem_cons.1 hu with rfl | hu
        · simpa using hlt
        · rw [Bool.eq_false_iff]; intro h2; exact hlt (ltD_trans (hw hu) h2)
      rw [cntG_none hn]
      by_cases he : w.1 = x
      · simp [he]
      · have hgt : ltD x w.1 = true := ltD_total (by simpa using hlt) he
        have : findG r x = none := by
          unfold findG
          have : (List.find? (fun q => decide (q.1 = x)) r) = none := by
            rw [List.find?_eq_none]; intro q hq k
            have k : q.1 = x := by simpa using k
            have := ltD_trans hgt (hw hq); rw [k, ltD_irrefl] at this; cases this
          rw [this]; rfl
        rw [if_neg he, this]; simp [he]
theorem fx139 (hG : ∀ f g, G f g = none) (l : List GoneT) (g : GoneT) (hs : SortG l) (hl : l.length ≤ 50000000) : FX G 139 sg139 ((l, g, ()), ()) = some ((addGone l g, ()), ()) := by
  refine fx_of (fn := Tryz.f139) (hG _ _) (by kernel_rfl) (by kernel_rfl) ((nf139 _ _ _).trans ?_)
  refine bind_of (fx156154 hG l g.1 hs hl) ?_
  refine bind_of (fx61 (hG _ _) l hl) ?_
  unfold addGone
  rw [findG_cnt hs, addG_cnt g hs]
  have hc : cntG l g.1 ≤ l.length := cntG_le l g.1
  by_cases h : (l[cntG l g.1]?).map (·.1) = some g.1
  · rw [decide_eq_true h, if_neg (fun k => by cases k.1), if_pos h]
    refine cond_T rfl ?_
    obtain ⟨u, hu, _⟩ : ∃ u, l[cntG l g.1]? = some u ∧ u.1 = g.1 := by
      cases hq : l[cntG l g.1]? with
      | none => rw [hq] at h; cases h
      | some u => rw [hq] at h; exact ⟨u, rfl, by simpa using h⟩
    have hlt := (List.getElem?_eq_some_iff.1 hu).1
    refine cond_T (both_T (ge_up _) (lt_up hlt)) ?_
    exact bind_of hu rfl
  · rw [decide_eq_false h, if_neg h]
    refine cond_F rfl ?_
    by_cases h4 : 400 ≤ l.length
    · rw [if_pos ⟨rfl, h4⟩]
      exact cond_F (decide_eq_false (show ¬ ((l.length : Nat) : Int) < 400 by omega)) rfl
    · rw [if_neg (fun k => h4 k.2)]
      refine cond_T (decide_eq_true (show ((l.length : Nat) : Int) < 400 by omega)) ?_
      have hok : insOk l ((cntG l g.1 : Nat) : Int) [g] = true := by
        unfold insOk
        rw [decide_eq_true (show (0 : Int) ≤ ((cntG l g.1 : Nat) : Int) by omega), decide_eq_true (show ((cntG l g.1 : Nat) : Int) ≤ ((l.length : Nat) : Int) by omega)]
        rw [fits (by simp; omega)]; rfl
      refine cond_T hok ?_
      have e : insRow l ((cntG l g.1 : Nat) : Int) [g] = l.take (cntG l g.1) ++ (g :: l.drop (cntG l g.1)) := by unfold insRow; simp
      exact congrArg (fun r : List GoneT => some ((r, ()), ())) e
theorem fx116 (hG : ∀ f g, G f g = none) (w : WorkT) (x to : Dart) (hs : SortG w.2.2.1) (hl : w.2.2.1.length ≤ 50000000) : FX G 116 sg116 ((x, to, ()), (w, ())) = some ((), ((w.1, (w.2.1, (addGone w.2.2.1 (x, to), ()))), ())) := by
  refine fx_of (fn := Tryz.f116) (hG _ _) (by kernel_rfl) (by kernel_rfl) ((nf116 _ _ _).trans ?_)
  exact bind_of (fx139 hG w.2.2.1 (x, to) hs hl) rfl

/-! ### Where a dart stands -/
theorem fx118 (hG : ∀ f g, G f g = none) (w : WorkT) (x : Dart) (hw : Rw w.1) (hl : w.1.length ≤ 50000000) (hr : ∀ v ∈ w.1, v.2.1.length ≤ 50000000) {k : Nat} {v : Vert} (hk : w.1[k]? = some v) (hx : x ∈ v.2.1) :
    FX G 118 sg118 ((x, ()), (w, ())) = some (((some ((⟨0, by decide⟩ : Fin 1), k)), ()), (w, ())) := by
  refine fx_of (fn := Tryz.f118) (hG _ _) (by kernel_rfl) (by kernel_rfl) ((nf118 _ _ _).trans ?_)
  have hkl := (List.getElem?_eq_some_iff.1 hk).1
  have loop : ∀ (n i : Nat), i + n = k → LX G 118 sg118 Tryz.f118 sh118_0 (seg Tryz.prog 118 0) ((((w.1.length : Nat) : Int), ((i : Int), ())), ((w, ((x, ()), ())), ())) = some (((some ((⟨0, by decide⟩ : Fin 1), k)), ()), (w, ())) := by
    intro n
    induction n with
    | zero =>
      intro i hi
      have hi : i = k := by omega
      subst hi
      refine lx_of (j := 0) (by kernel_rfl) ((nl118_0 _ _ _).trans ?_)
      refine cond_T (lt_up hkl) (cond_T (both_T (ge_up _) (lt_up hkl)) (bind_of hk ?_))
      refine bind_of (fx133 hG v.2.1 x (by have := hr v (List.mem_of_getElem? hk); omega)) ?_
      exact cond_T (decide_eq_true hx) rfl
    | succ n ih =>
      intro i hi
      have hil : i < w.1.length := by omega
      have hu : w.1[i]? = some w.1[i] := List.getElem?_eq_getElem hil
      have hnx : x ∉ w.1[i].2.1 := fun hxi => by
        have h1 : w.1[i] = v := hw.one (List.mem_of_getElem? hk) (List.getElem_mem hil) hx hxi
        have h2 := cntV_only hw.s hk rfl
        have h3 := cntV_only hw.s (x := v.1) hu (by rw [h1])
        omega
      refine lx_of (j := 0) (by kernel_rfl) ((nl118_0 _ _ _).trans ?_)
      refine cond_T (lt_up hil) (cond_T (both_T (ge_up _) (lt_up hil)) (bind_of hu ?_))
      refine bind_of (fx133 hG w.1[i].2.1 x (by have := hr _ (List.getElem_mem hil); omega)) ?_
      refine cond_F (decide_eq_false hnx) ?_
      have := ih (i + 1) (by omega)
      rw [← wrap_up hil (by omega)] at this
      exact this
  exact loop k 0 (by omega)
theorem set_re {l : List Vert} {k : Nat} {v : Vert} (hs : SortV l) (hk : l[k]? = some v) (r : List Dart) : l.set k (v.1, (r, v.2.2)) = l.map (reR v.1 r) := by
  have h := findV_of hs (List.mem_of_getElem? hk)
  rw [cntV_only hs hk rfl]
  refine (mapV_cnt hs h (reR v.1 r) (fun u => (u.1, (r, u.2.2))) (fun u hu => ?_) (fun u hu => ?_)).symm
  · unfold reR; rw [if_pos hu]
  · unfold reR; rw [if_neg hu]
theorem at_place {l : List Vert} {x : Dart} (h : x ∈ darts l) : ∃ (k : Nat) (v : Vert), l[k]? = some v ∧ x ∈ v.2.1 ∧ v ∈ l := by
  obtain ⟨v, hv, hx⟩ := mem_darts.1 h
  obtain ⟨k, hk, he⟩ := List.getElem_of_mem hv
  exact ⟨k, v, by rw [List.getElem?_eq_getElem hk, he], hx, hv⟩
/-- Small rows of vertices. -/
structure Sv (l : List Vert) : Prop where
  n : l.length ≤ 50000000
  r : ∀ v ∈ l, v.2.1.length ≤ 50000000
theorem xor_side {n : Int} (h : n = 0 ∨ n = 1) : bitsI .xor .i64 n 1 = IntKind.wrap .i64 (1 - n) := by
  rcases h with rfl | rfl <;> decide
theorem fx122 (hG : G 122 sg122 = none) (x : Dart) (h : x.2 = 0 ∨ x.2 = 1) : FX G 122 sg122 ((x, ()), ()) = some ((otherD x, ()), ()) := by
  refine fx_of (fn := Tryz.f122) hG (by kernel_rfl) (by kernel_rfl) ((nf122 _ _ _).trans ?_)
  exact congrArg (fun n : Int => some ((((x.1, n) : Dart), ()), ())) (xor_side h)

/-! ### Ahead -/
theorem aheadD_of {d : Diag} (h : Rw d.1) {v : Vert} {x : Dart} (hv : v ∈ d.1) (hx : x ∈ v.2.1) : aheadD d x = if (prevR v.2.1 x).1 = x.1 then (if (prevR v.2.1 (prevR v.2.1 x)).1 = x.1 then zD else prevR v.2.1 (prevR v.2.1 x)) else prevR v.2.1 x := by
  unfold aheadD
  have e : ringAt d ((atD d x).getD zI) = v.2.1 := by
    unfold atD; rw [atV_of h hv hx]; exact ringAt_of h.s hv
  simp only [e]
  by_cases h1 : (prevR v.2.1 x).1 = x.1
  · simp only [if_pos h1]
  · simp only [if_neg h1]
theorem fx117 (hG : ∀ f g, G f g = none) (w : WorkT) (x : Dart) (hw : Rw w.1) (hs : Sv w.1) (hx : x ∈ darts w.1) (e : List EdgeT) : FX G 117 sg117 ((x, ()), (w, ())) = some ((aheadD (w.1, e) x, ()), (w, ())) := by
  obtain ⟨k, v, hk, hxv, hv⟩ := at_place hx
  have hrl := hs.r v hv
  refine fx_of (fn := Tryz.f117) (hG _ _) (by kernel_rfl) (by kernel_rfl) ((nf117 _ _ _).trans ?_)
  rw [aheadD_of (d := (w.1, e)) hw hv hxv]
  have prev : ∀ y : Dart, FX G 140 sg140 ((v.2.1, y, ()), ()) = some (((prevR v.2.1 y), ((orZ (stepD v.2.1 y (v.2.1.length - 1))).2)), ()) := fun y => by
    refine (fx140 hG v.2.1 y (by omega)).trans ?_
    have : (orZ (stepD v.2.1 y (v.2.1.length - 1))).1 = prevR v.2.1 y := orZ_fst _
    rw [← this]
  have edge : ∀ y : Dart, ((y.1.1 == x.1.1) && (y.1.2 == x.1.2)) = decide (y.1 = x.1) := fun y => beqI y.1 x.1
  refine lx_of (j := 0) (by kernel_rfl) ((nl117_0 _ _ _).trans ?_)
  refine cond_T rfl (bind_of (fx118 hG w x hw hs.n hs.r hk hxv) ?_)
  refine opt_S rfl (cond_T rfl (bind_of hk ?_))
  refine bind_of (prev x) ?_
  by_cases h1 : (prevR v.2.1 x).1 = x.1
  · rw [if_pos h1]
    refine cond_not_of ((edge _).trans (decide_eq_true h1)) ?_
    refine lx_of (j := 0) (by kernel_rfl) ((nl117_0 _ _ _).trans ?_)
    refine cond_T rfl (bind_of (fx118 hG w x hw hs.n hs.r hk hxv) ?_)
    refine opt_S rfl (cond_T rfl (bind_of hk ?_))
    refine bind_of (prev (prevR v.2.1 x)) ?_
    by_cases h2 : (prevR v.2.1 (prevR v.2.1 x)).1 = x.1
    · rw [if_pos h2]
      refine cond_not_of ((edge _).trans (decide_eq_true h2)) ?_
      refine lx_of (j := 0) (by kernel_rfl) ((nl117_0 _ _ _).trans ?_)
      exact cond_F rfl rfl
    · rw [if_neg h2]
      exact cond_not_of ((edge _).trans (decide_eq_false h2)) rfl
  · rw [if_neg h1]
    exact cond_not_of ((edge _).trans (decide_eq_false h1)) rfl

/-! ### An edge taken away -/
theorem del_edge {l : List EdgeT} {x : ID} (hs : SortE l) (h : (findE l x).isSome = true) (hl : l.length ≤ 50000000) :
    delOk l ((cntE l x : Nat) : Int) (IntKind.wrap .i64 (((cntE l x : Nat) : Int) + 1)) = true ∧ delRow l ((cntE l x : Nat) : Int) (IntKind.wrap .i64 (((cntE l x : Nat) : Int) + 1)) = dropE l x := by
  obtain ⟨e, he⟩ := Option.isSome_iff_exists.1 h
  have hlt := (List.getElem?_eq_some_iff.1 (get_cntE hs he)).1
  have hw : IntKind.wrap .i64 (((cntE l x : Nat) : Int) + 1) = ((cntE l x + 1 : Nat) : Int) := wrap_up hlt (by omega)
  constructor
  · rw [hw]
    unfold delOk
    rw [decide_eq_true (show (0 : Int) ≤ ((cntE l x : Nat) : Int) by omega), decide_eq_true (show ((cntE l x : Nat) : Int) < ((cntE l x + 1 : Nat) : Int) by omega), decide_eq_true (show ((cntE l x + 1 : Nat) : Int) ≤ ((l.length : Nat) : Int) by omega), fits (by omega)]; rfl
  · rw [hw, dropE_cnt hs h]
    unfold delRow; simp only [Int.toNat_natCast]
theorem del_vert {l : List Vert} {x : ID} (hs : SortV l) (h : (findV l x).isSome = true) (hl : l.length ≤ 50000000) :
    delOk l ((cntV l x : Nat) : Int) (IntKind.wrap .i64 (((cntV l x : Nat) : Int) + 1)) = true ∧ delRow l ((cntV l x : Nat) : Int) (IntKind.wrap .i64 (((cntV l x : Nat) : Int) + 1)) = dropV l x := by
  obtain ⟨e, he⟩ := Option.isSome_iff_exists.1 h
  have hlt := (List.getElem?_eq_some_iff.1 (get_cntV hs he)).1
  have hw : IntKind.wrap .i64 (((cntV l x : Nat) : Int) + 1) = ((cntV l x + 1 : Nat) : Int) := wrap_up hlt (by omega)
  constructor
  · rw [hw]
    unfold delOk
    rw [decide_eq_true (show (0 : Int) ≤ ((cntV l x : Nat) : Int) by omega), decide_eq_true (show ((cntV l x : Nat) : Int) < ((cntV l x + 1 : Nat) : Int) by omega), decide_eq_true (show ((cntV l x + 1 : Nat) : Int) ≤ ((l.length : Nat) : Int) by omega), fits (by omega)]; rfl
  · rw [hw, dropV_cnt hs h]
    unfold delRow; simp only [Int.toNat_natCast]
theorem Sv.re {l : List Vert} (h : Sv l) (x : ID) {r : List Dart} (hr : r.length ≤ 50000000) : Sv (l.map (reR x r)) := by
  refine ⟨by simp; exact h.n, fun w hw => ?_⟩
  obtain ⟨u, hu, rfl⟩ := List.mem_map.1 hw
  unfold reR
  split
  · exact hr
  · exact h.r u hu
theorem remR_length_le {row : List Dart} (d : Dart) : (remR row d).length ≤ row.length := by
  unfold remR; rw [turn_length]; exact List.length_filter_le _ _
/-- A round of the loop that takes darts out of their rings. -/
theorem cut_one {w : WorkT} {x : Dart} (hw : Rw w.1) {k : Nat} {v : Vert} (hk : w.1[k]? = some v) (hx : x ∈ v.2.1) (e : List EdgeT) : w.1.set k (v.1, (remR v.2.1 x, v.2.2)) = (removed (w.1, e) x).1 := by
  rw [removed_of (d := (w.1, e)) hw (List.mem_of_getElem? hk) hx]
  exact set_re hw.s hk _
theorem fx93 (hG : ∀ f g, G f g = none) (s : StateT) (o : OpT) (h : WfS s) (hs : Sv s.1.1) :
    ∃ (e : Int) (w : WorkT), FX G 93 sg93 ((o, ()), (workOf s, ())) = some ((e, ()), (w, ())) ∧ doneP e w = cutR s o := by
  have hne := h.d.ne
  unfold cutR
  cases hf : (findE s.1.2 (oId o)).isSome with
  | false =>
    refine ⟨13, workOf s, ?_, ?_⟩
    · refine fx_of (fn := Tryz.f93) (hG _ _) (by kernel_rfl) (by kernel_rfl) ((nf93 _ _ _).trans ?_)
      refine bind_of (fx115 hG (workOf s) (oId o) h.d.se (by show s.1.2.length ≤ _; omega)) ?_
      exact cond_not_of ((thereE_iff (l := s.1.2) h.d.se).trans hf) rfl
    · rw [if_pos (show (edge s.1 (oId o)).isSome = false from hf)]; rfl
  | true =>
    rw [if_neg (show ¬ (edge s.1 (oId o)).isSome = false by show ¬ (findE s.1.2 (oId o)).isSome = false; rw [hf]; simp)]
    obtain ⟨x, hx⟩ : ∃ x : Dart, x = (oId o, 0) := ⟨_, rfl⟩
    obtain ⟨y, hy⟩ : ∃ y : Dart, y = (oId o, 1) := ⟨_, rfl⟩
    have hxd : x ∈ darts s.1.1 := by rw [hx]; exact h.d.is_end hf (.inl rfl)
    have hyd : y ∈ darts s.1.1 := by rw [hy]; exact h.d.is_end hf (.inr rfl)
    have g1 := addGone_ok h.g h.n (x, aheadD s.1 x)
    have hn := h.n
    obtain ⟨p1, q1⟩ := removed_perm h.d.rw hxd
    have hyd1 : y ∈ darts (removed s.1 x).1 := by
      rcases List.mem_cons.1 (p1.mem_iff.1 hyd) with k | k
      · rw [hx, hy] at k; cases k
      · exact k
    have hgv := removed_gv (removed_gv h.d.gv x) y
    refine ⟨0, ((removed (removed s.1 x) y).1, (dropE s.1.2 (oId o), (addGone (addGone s.2 (x, aheadD s.1 x)) (y, aheadD s.1 y), ()))), ?_, ?_⟩
    · refine fx_of (fn := Tryz.f93) (hG _ _) (by kernel_rfl) (by kernel_rfl) ((nf93 _ _ _).trans ?_)
      refine bind_of (fx115 hG (workOf s) (oId o) h.d.se (by show s.1.2.length ≤ _; omega)) ?_
      refine cond_not_of ((thereE_iff (l := s.1.2) h.d.se).trans hf) (cond_F rfl ?_)
      have h111 : FX G 111 sg111 ((oId o, ()), ()) = some ((x, y, ()), ()) := by
        rw [hx, hy]; exact fx_of (fn := Tryz.f111) (hG _ _) (by kernel_rfl) (by kernel_rfl) (nf111 _ _ _)
      refine bind_of h111 ?_
      -- what is remembered
      refine lx_of (j := 0) (by kernel_rfl) ((nl93_0 _ _ _).trans ?_)
      refine cond_T rfl (cond_T rfl (bind_of (a := x) rfl ?_))
      refine bind_of (fx117 hG (workOf s) x h.d.rw hs hxd s.1.2) ?_
      refine bind_of (fx116 hG (workOf s) x (aheadD s.1 x) h.g (by show s.2.length ≤ _; omega)) ?_
      refine lx_of (j := 0) (by kernel_rfl) ((nl93_0 _ _ _).trans ?_)
      refine cond_T rfl (cond_T rfl (bind_of (a := y) rfl ?_))
      refine bind_of (fx117 hG (s.1.1, (s.1.2, (addGone s.2 (x, aheadD s.1 x), ()))) y h.d.rw hs hyd s.1.2) ?_
      refine bind_of (fx116 hG (s.1.1, (s.1.2, (addGone s.2 (x, aheadD s.1 x), ()))) y (aheadD s.1 y) g1.1 (by have := g1.2; show (addGone s.2 (x, aheadD s.1 x)).length ≤ _; omega)) ?_
      refine lx_of (j := 0) (by kernel_rfl) ((nl93_0 _ _ _).trans ?_)
      refine cond_F rfl ?_
      -- what is taken out
      generalize addGone (addGone s.2 (x, aheadD s.1 x)) (y, aheadD s.1 y) = gg
      obtain ⟨k, v, hk, hxv, hv⟩ := at_place hxd
      refine lx_of (j := 1) (by kernel_rfl) ((nl93_1 _ _ _).trans ?_)
      refine cond_T rfl (cond_T rfl (bind_of (a := x) rfl ?_))
      refine bind_of (fx118 hG (s.1.1, (s.1.2, (gg, ()))) x h.d.rw hs.n hs.r hk hxv) ?_
      refine opt_S rfl (cond_T rfl (bind_of hk ?_))
      refine bind_of (fx119 hG v.2.1 x (h.d.rw.ring hv) (hs.r v hv)) ?_
      refine bind_of hk ?_
      have e1 : s.1.1.set k (v.1, (remR v.2.1 x, v.2.2)) = (removed s.1 x).1 := cut_one (w := (s.1.1, (s.1.2, (gg, ())))) h.d.rw hk hxv s.1.2
      have hs1 : Sv (removed s.1 x).1 := by
        rw [removed_of h.d.rw hv hxv]
        exact hs.re _ (Nat.le_trans (remR_length_le x) (hs.r v hv))
      obtain ⟨k2, v2, hk2, hyv, hv2⟩ := at_place hyd1
      have e2 : (removed s.1 x).1.set k2 (v2.1, (remR v2.2.1 y, v2.2.2)) = (removed (removed s.1 x) y).1 := cut_one (w := ((removed s.1 x).1, (s.1.2, (gg, ())))) q1 hk2 hyv (removed s.1 x).2
      have rest : ∀ a : List Vert, a = (removed s.1 x).1 → LX G 93 sg93 Tryz.f93 sh93_1 (seg Tryz.prog 93 1) ((((cntE s.1.2 (oId o) : Nat) : Int), ((2 : Int), ((1 : Int), ()))), (((a, (s.1.2, (gg, ()))), ()), ([x, y], ()))) = some (((0 : Int), ()), (((removed (removed s.1 x) y).1, (dropE s.1.2 (oId o), (gg, ()))), ())) := by
        intro a ha
        subst ha
        refine lx_of (j := 1) (by kernel_rfl) ((nl93_1 _ _ _).trans ?_)
        refine cond_T rfl (cond_T rfl (bind_of (a := y) rfl ?_))
        refine bind_of (fx118 hG ((removed s.1 x).1, (s.1.2, (gg, ()))) y q1 hs1.n hs1.r hk2 hyv) ?_
        refine opt_S rfl (cond_T rfl (bind_of hk2 ?_))
        refine bind_of (fx119 hG v2.2.1 y (q1.ring hv2) (hs1.r v2 hv2)) ?_
        refine bind_of hk2 ?_
        have last : ∀ b : List Vert, b = (removed (removed s.1 x) y).1 → LX G 93 sg93 Tryz.f93 sh93_1 (seg Tryz.prog 93 1) ((((cntE s.1.2 (oId o) : Nat) : Int), ((2 : Int), ((2 : Int), ()))), (((b, (s.1.2, (gg, ()))), ()), ([x, y], ()))) = some (((0 : Int), ()), (((removed (removed s.1 x) y).1, (dropE s.1.2 (oId o), (gg, ()))), ())) := by
          intro b hb
          subst hb
          refine lx_of (j := 1) (by kernel_rfl) ((nl93_1 _ _ _).trans ?_)
          obtain ⟨d1, d2⟩ := del_edge h.d.se hf (by omega)
          refine cond_F rfl (cond_T d1 ?_)
          exact congrArg (fun l : List EdgeT => some (((0 : Int), ()), (((removed (removed s.1 x) y).1, (l, (gg, ()))), ()))) d2
        exact last _ e2
      exact rest _ e1
    · rw [← hx, ← hy]
      unfold without
      rw [drop_zV hgv]
      rfl
end Go.Vs

set_option linter.unusedVariables false
set_option linter.unusedSimpArgs false
namespace Go.Vs
open Go.Proofs
variable {G : (f : FuncId) → (g : Sig) → Option (g.A → Option g.B)}

theorem split_bits {n : Int} (h0 : 0 ≤ n) (h3 : n ≤ 3) : bitsI .xor .i64 1 (bitsI .and .i64 n 1) = IntKind.wrap .i64 (1 - Int.tmod n 2) ∧ shrI .i64 n 1 = IntKind.wrap .i64 (Int.tdiv n 2) := by
  have : n = 0 ∨ n = 1 ∨ n = 2 ∨ n = 3 := by omega
  rcases this with rfl | rfl | rfl | rfl <;> exact ⟨by decide, by decide⟩
theorem swap_one {l : List Vert} {x : Dart} (hw : Rw l) {k : Nat} {v : Vert} (hk : l[k]? = some v) (hx : x ∈ v.2.1) (y : Dart) (e : List EdgeT) : l.set k (v.1, (swapR v.2.1 x y, v.2.2)) = (swapped (l, e) x y).1 := by
  rw [swapped_of (d := (l, e)) hw y (List.mem_of_getElem? hk) hx]
  exact set_re hw.s hk _
theorem fx94 (hG : ∀ f g, G f g = none) (s : StateT) (o : OpT) (h : WfS s) (hs : Sv s.1.1) (hm : mayOp o = 0) (hk5 : o.1 = 5) :
    ∃ (e : Int) (w : WorkT), FX G 94 sg94 ((o, ()), (workOf s, ())) = some ((e, ()), (w, ())) ∧ doneP e w = splitR s o := by
  have hne := h.d.ne; have hnv := h.d.nv
  obtain ⟨m1, m2, m3, m4⟩ := may_split hm hk5
  obtain ⟨s1, s2⟩ := side_val m3 m4
  obtain ⟨c1, c2⟩ := split_bits m3 m4
  have key : ∀ (e : Int) (w : WorkT), FX G 94 sg94 ((o, ()), (workOf s, ())) = some ((e, ()), (w, ())) → doneP e w = splitR s o → ∃ (e : Int) (w : WorkT), FX G 94 sg94 ((o, ()), (workOf s, ())) = some ((e, ()), (w, ())) ∧ doneP e w = splitR s o := fun e w a b => ⟨e, w, a, b⟩
  have start : ∀ (e : Int) (w : WorkT), nfE 94 sg94 Tryz.f94 (FX G) (LX G 94 sg94 Tryz.f94) ((o, ()), (workOf s, ())) = some ((e, ()), (w, ())) → FX G 94 sg94 ((o, ()), (workOf s, ())) = some ((e, ()), (w, ())) := fun e w a =>
    fx_of (fn := Tryz.f94) (hG _ _) (by kernel_rfl) (by kernel_rfl) a
  unfold splitR
  cases hf : (findE s.1.2 (oId o)).isSome with
  | false =>
    refine ⟨13, workOf s, start _ _ ((nf94 _ _ _).trans ?_), ?_⟩
    · refine bind_of (fx115 hG (workOf s) (oId o) h.d.se (by show s.1.2.length ≤ _; omega)) ?_
      refine bind_of (fx107 hG (workOf s) (oNew o) h.d.sv (by show s.1.1.length ≤ _; omega)) ?_
      refine bind_of (fx115 hG (workOf s) (oOther o) h.d.se (by show s.1.2.length ≤ _; omega)) ?_
      exact cond_not_of ((thereE_iff (l := s.1.2) h.d.se).trans hf) rfl
    · rw [if_pos (show (edge s.1 (oId o)).isSome = false from hf)]; rfl
  | true =>
  rw [if_neg (show ¬ (edge s.1 (oId o)).isSome = false by show ¬ (findE s.1.2 (oId o)).isSome = false; rw [hf]; simp)]
  cases hfv : (findV s.1.1 (oNew o)).isSome with
  | true =>
    refine ⟨12, workOf s, start _ _ ((nf94 _ _ _).trans ?_), ?_⟩
    · refine bind_of (fx115 hG (workOf s) (oId o) h.d.se (by show s.1.2.length ≤ _; omega)) ?_
      refine bind_of (fx107 hG (workOf s) (oNew o) h.d.sv (by show s.1.1.length ≤ _; omega)) ?_
      refine bind_of (fx115 hG (workOf s) (oOther o) h.d.se (by show s.1.2.length ≤ _; omega)) ?_
      refine cond_not_of ((thereE_iff (l := s.1.2) h.d.se).trans hf) (cond_F rfl ?_)
      exact cond_T ((there_iff (l := s.1.1) h.d.sv).trans hfv) rfl
    · rw [if_pos (show (vertex s.1 (oNew o)).isSome = true from hfv)]; rfl
  | false =>
  rw [if_neg (show ¬ (vertex s.1 (oNew o)).isSome = true by show ¬ (findV s.1.1 (oNew o)).isSome = true; rw [hfv]; simp)]
  cases hfo : (findE s.1.2 (oOther o)).isSome with
  | true =>
    refine ⟨12, workOf s, start _ _ ((nf94 _ _ _).trans ?_), ?_⟩
    · refine bind_of (fx115 hG (workOf s) (oId o) h.d.se (by show s.1.2.length ≤ _; omega)) ?_
      refine bind_of (fx107 hG (workOf s) (oNew o) h.d.sv (by show s.1.1.length ≤ _; omega)) ?_
      refine bind_of (fx115 hG (workOf s) (oOther o) h.d.se (by show s.1.2.length ≤ _; omega)) ?_
      refine cond_not_of ((thereE_iff (l := s.1.2) h.d.se).trans hf) (cond_F rfl ?_)
      refine cond_F ((there_iff (l := s.1.1) h.d.sv).trans hfv) ?_
      exact cond_T ((thereE_iff (l := s.1.2) h.d.se).trans hfo) rfl
    · rw [if_pos (show (edge s.1 (oOther o)).isSome = true from hfo)]; rfl
  | false =>
  rw [if_neg (show ¬ (edge s.1 (oOther o)).isSome = true by show ¬ (findE s.1.2 (oOther o)).isSome = true; rw [hfo]; simp)]
  have hnv0 : findV s.1.1 (oNew o) = none := by simpa using hfv
  have hne0 : findE s.1.2 (oOther o) = none := by simpa using hfo
  obtain ⟨m, hmm⟩ : ∃ m : Dart, m = spM o := ⟨_, rfl⟩
  obtain ⟨kk, hkk⟩ : ∃ m : Dart, m = spK o := ⟨_, rfl⟩
  have hmd : m ∈ darts s.1.1 := by rw [hmm]; exact h.d.is_end hf s1
  have hkd : otherD kk ∉ darts s.1.1 := by rw [hkk]; exact h.d.not_end hne0 _
  obtain ⟨p1, q1⟩ := swapped_perm h.d.rw hmd hkd
  have hk2 : kk.2 = 0 ∨ kk.2 = 1 := by rw [hkk]; exact s2
  obtain ⟨k, v, hk, hxv, hv⟩ := at_place hmd
  have e1 : s.1.1.set k (v.1, (swapR v.2.1 m (otherD kk), v.2.2)) = (swapped s.1 m (otherD kk)).1 := swap_one h.d.rw hk hxv _ s.1.2
  have hlen : (swapped s.1 m (otherD kk)).1.length = s.1.1.length := by unfold swapped; exact len_ringed _ _ _
  have hnv' : findV (swapped s.1 m (otherD kk)).1 (oNew o) = none := by
    unfold swapped Vs.ringed
    rw [findV_map (reR_id _ _), hnv0]; rfl
  have eM : ((oId o, bitsI .xor .i64 1 (bitsI .and .i64 (oN o) 1)) : Dart) = m := by rw [hmm, c1]; rfl
  have eK : ((oOther o, shrI .i64 (oN o) 1) : Dart) = kk := by rw [hkk, c2]; rfl
  have go : ∀ (e : Int) (w : WorkT), (∀ a : List Vert, a = (swapped s.1 m (otherD kk)).1 → ((FX G 90 sg90 (((oNew o, (turn [m, kk], (e0, (0 : Int)))), ()), ((a, (s.1.2, (s.2, ()))), ()))).bind fun (y11 : ((Int × Unit) × (WorkT × Unit))) =>
       cond (y11.1.1 != (0 : Int))
        (some (y11.1, ((y11.2.1.1, (y11.2.1.2.1, y11.2.1.2.2)), ())))
        ((FX G 110 sg110 ((oOther o, ()), ((y11.2.1.1, (y11.2.1.2.1, y11.2.1.2.2)), ()))).bind fun (y12 : ((Int × Unit) × (WorkT × Unit))) =>
        some (y12.1, ((y12.2.1.1, (y12.2.1.2.1, y12.2.1.2.2)), ())))) = some ((e, ()), (w, ()))) → FX G 94 sg94 ((o, ()), (workOf s, ())) = some ((e, ()), (w, ())) := fun e w rest => by
    refine start _ _ ((nf94 _ _ _).trans ?_)
    refine bind_of (fx115 hG (workOf s) (oId o) h.d.se (by show s.1.2.length ≤ _; omega)) ?_
    refine bind_of (fx107 hG (workOf s) (oNew o) h.d.sv (by show s.1.1.length ≤ _; omega)) ?_
    refine bind_of (fx115 hG (workOf s) (oOther o) h.d.se (by show s.1.2.length ≤ _; omega)) ?_
    refine cond_not_of ((thereE_iff (l := s.1.2) h.d.se).trans hf) (cond_F rfl ?_)
    refine cond_F ((there_iff (l := s.1.1) h.d.sv).trans hfv) ?_
    refine cond_F ((thereE_iff (l := s.1.2) h.d.se).trans hfo) ?_
    refine cond_F rfl ?_
    have body : ∀ mm k2 : Dart, mm = m → k2 = kk → ((FX G 118 sg118 ((mm, ()), (workOf s, ()))).bind fun (y4 : (((Option ((Fin 1) × Nat)) × Unit) × (WorkT × Unit))) =>
      optE y4.1.1
       (none) fun (p5 : ((Fin 1) × Nat)) =>
      cond (p5.1.val == 0)
       (((y4.2.1.1)[p5.2]?).bind fun (y6 : Vert) =>
       (FX G 122 sg122 ((k2, ()), ())).bind fun (y7 : ((Dart × Unit) × Unit)) =>
       (FX G 121 sg121 ((y6.2.1, (mm, ((y7.1.1.1, y7.1.1.2), ()))), ())).bind fun (y8 : (((List Dart) × Unit) × Unit)) =>
       ((y4.2.1.1)[p5.2]?).bind fun (y9 : Vert) =>
       (FX G 123 sg123 (([mm, k2], ()), ())).bind fun (y10 : (((List Dart) × Unit) × Unit)) =>
       (FX G 90 sg90 (((oNew o, (y10.1.1, ((⟨#[]⟩ : ByteArray), (0 : Int)))), ()), (((List.set y4.2.1.1 p5.2 (y9.1, (y8.1.1, y9.2.2))), (y4.2.1.2.1, y4.2.1.2.2)), ()))).bind fun (y11 : ((Int × Unit) × (WorkT × Unit))) =>
       cond (y11.1.1 != (0 : Int))
        (some (y11.1, ((y11.2.1.1, (y11.2.1.2.1, y11.2.1.2.2)), ())))
        ((FX G 110 sg110 ((oOther o, ()), ((y11.2.1.1, (y11.2.1.2.1, y11.2.1.2.2)), ()))).bind fun (y12 : ((Int × Unit) × (WorkT × Unit))) =>
        some (y12.1, ((y12.2.1.1, (y12.2.1.2.1, y12.2.1.2.2)), ()))))
       (none)) = some ((e, ()), (w, ())) := by
      intro mm k2 hmm2 hk22
      subst hmm2 hk22
      refine bind_of (fx118 hG (workOf s) mm h.d.rw hs.n hs.r hk hxv) ?_
      refine opt_S rfl (cond_T rfl (bind_of hk ?_))
      refine bind_of (fx122 (hG _ _) k2 hk2) ?_
      refine bind_of (fx121 hG v.2.1 mm (otherD k2) (hs.r v hv)) ?_
      refine bind_of hk ?_
      refine bind_of (fx123 hG [mm, k2] (by simp)) ?_
      exact rest _ e1
    exact body _ _ eM eK
  have hbig : 24 ≤ s.1.1.length → newVP ((swapped s.1 m (otherD kk)).1, (s.1.2, (s.2, ()))) (oNew o, (turn [m, kk], (e0, 0))) = (3, ((swapped s.1 m (otherD kk)).1, (s.1.2, (s.2, ())))) := fun hb => by
    unfold newVP
    rw [if_neg (by rw [show findV ((swapped s.1 m (otherD kk)).1, (s.1.2, (s.2, ()))).1 ((oNew o, (turn [m, kk], (e0, 0))) : Vert).1 = none from hnv']; simp)]
    rw [if_pos (by show 24 ≤ (swapped s.1 m (otherD kk)).1.length; omega)]
  have hsmall : ¬ 24 ≤ s.1.1.length → newVP ((swapped s.1 m (otherD kk)).1, (s.1.2, (s.2, ()))) (oNew o, (turn [m, kk], (e0, 0))) = (0, (addV (oNew o, (turn [m, kk], (e0, 0))) (swapped s.1 m (otherD kk)).1, (s.1.2, (s.2, ())))) := fun hb => by
    unfold newVP
    rw [if_neg (by rw [show findV ((swapped s.1 m (otherD kk)).1, (s.1.2, (s.2, ()))).1 ((oNew o, (turn [m, kk], (e0, 0))) : Vert).1 = none from hnv']; simp)]
    rw [if_neg (by show ¬ 24 ≤ (swapped s.1 m (otherD kk)).1.length; omega)]
  by_cases hb : 24 ≤ s.1.1.length
  · refine ⟨3, ((swapped s.1 m (otherD kk)).1, (s.1.2, (s.2, ()))), go _ _ (fun a ha => ?_), ?_⟩
    · subst ha
      refine bind_of (fx90 hG ((swapped s.1 m (otherD kk)).1, (s.1.2, (s.2, ()))) (oNew o, (turn [m, kk], (e0, 0))) q1.s (by show (swapped s.1 m (otherD kk)).1.length ≤ _; omega)) ?_
      rw [hbig hb]
      exact cond_T rfl rfl
    · rw [if_pos hb]; rfl
  rw [if_neg hb]
  have hE : newEP (addV (oNew o, (turn [m, kk], (e0, 0))) (swapped s.1 m (otherD kk)).1, (s.1.2, (s.2, ()))) (oOther o) = if 40 ≤ s.1.2.length then (3, (addV (oNew o, (turn [m, kk], (e0, 0))) (swapped s.1 m (otherD kk)).1, (s.1.2, (s.2, ())))) else (0, (addV (oNew o, (turn [m, kk], (e0, 0))) (swapped s.1 m (otherD kk)).1, (addE (oOther o, (e0, 0)) s.1.2, (s.2, ())))) := by
    unfold newEP
    rw [if_neg (by show ¬ (findE s.1.2 (oOther o)).isSome = true; rw [hfo]; simp)]
  have fin : FX G 94 sg94 ((o, ()), (workOf s, ())) = some (((newEP (addV (oNew o, (turn [m, kk], (e0, 0))) (swapped s.1 m (otherD kk)).1, (s.1.2, (s.2, ()))) (oOther o)).1, ()), ((newEP (addV (oNew o, (turn [m, kk], (e0, 0))) (swapped s.1 m (otherD kk)).1, (s.1.2, (s.2, ()))) (oOther o)).2, ())) := by
    refine go _ _ (fun a ha => ?_)
    subst ha
    refine bind_of (fx90 hG ((swapped s.1 m (otherD kk)).1, (s.1.2, (s.2, ()))) (oNew o, (turn [m, kk], (e0, 0))) q1.s (by show (swapped s.1 m (otherD kk)).1.length ≤ _; omega)) ?_
    rw [hsmall hb]
    refine cond_F rfl ?_
    exact bind_of (fx110 hG (addV (oNew o, (turn [m, kk], (e0, 0))) (swapped s.1 m (otherD kk)).1, (s.1.2, (s.2, ()))) (oOther o) h.d.se (by show s.1.2.length ≤ _; omega)) rfl
  rw [hE] at fin
  by_cases hb4 : 40 ≤ s.1.2.length
  · rw [if_pos hb4] at fin ⊢
    exact ⟨_, _, fin, rfl⟩
  · rw [if_neg hb4] at fin ⊢
    refine ⟨_, _, fin, ?_⟩
    rw [hmm, hkk]; rfl

/-! ### A vertex smoothed -/
theorem fx95 (hG : ∀ f g, G f g = none) (s : StateT) (o : OpT) (h : WfS s) (hs : Sv s.1.1) :
    ∃ (e : Int) (w : WorkT), FX G 95 sg95 ((o, ()), (workOf s, ())) = some ((e, ()), (w, ())) ∧ doneP e w = smoothR s o := by
  have hne := h.d.ne; have hnv := h.d.nv; have hgn := h.n
  have start : ∀ (e : Int) (w : WorkT), nfE 95 sg95 Tryz.f95 (FX G) (LX G 95 sg95 Tryz.f95) ((o, ()), (workOf s, ())) = some ((e, ()), (w, ())) → FX G 95 sg95 ((o, ()), (workOf s, ())) = some ((e, ()), (w, ())) := fun e w a =>
    fx_of (fn := Tryz.f95) (hG _ _) (by kernel_rfl) (by kernel_rfl) a
  unfold smoothR
  cases hf : findV s.1.1 (oId o) with
  | none =>
    refine ⟨13, workOf s, start _ _ ((nf95 _ _ _).trans ?_), ?_⟩
    · refine bind_of (fx107 hG (workOf s) (oId o) h.d.sv (by show s.1.1.length ≤ _; omega)) ?_
      exact cond_not_of ((there_iff (l := s.1.1) h.d.sv).trans (by rw [hf])) rfl
    · rw [show vertex s.1 (oId o) = none from hf]; rfl
  | some v =>
  have hfs : (findV s.1.1 (oId o)).isSome = true := by rw [hf]; rfl
  have hv := findV_mem hf
  have hvi := findV_id hf
  have hget := get_cntV h.d.sv hf
  have hlt := (List.getElem?_eq_some_iff.1 hget).1
  have hgr := h.d.rw
  have go : ∀ (e : Int) (w : WorkT), (cond ((((List.length v.2.1) : Nat) : Int) != (2 : Int)) (some (((14 : Int), ()), (workOf s, ()))) _ = some ((e, ()), (w, ()))) → FX G 95 sg95 ((o, ()), (workOf s, ())) = some ((e, ()), (w, ())) := fun e w rest => by
    refine start _ _ ((nf95 _ _ _).trans ?_)
    refine bind_of (fx107 hG (workOf s) (oId o) h.d.sv (by show s.1.1.length ≤ _; omega)) ?_
    refine cond_not_of ((there_iff (l := s.1.1) h.d.sv).trans hfs) (cond_F rfl ?_)
    refine cond_T (both_T (ge_up _) (lt_up hlt)) (bind_of hget ?_)
    exact rest
  rw [show vertex s.1 (oId o) = some v from hf]
  by_cases hl2 : v.2.1.length = 2
  case neg =>
    refine ⟨14, workOf s, go _ _ (cond_T (by rw [bne_iff_ne]; omega) rfl), ?_⟩
    show doneP 14 (workOf s) = (match v.2.1 with | [r0, r1] => smooth2 s o r0 r1 | _ => (zS, (14, ())))
    split
    · rename_i hr; rw [hr] at hl2; exact absurd rfl hl2
    · rfl
  obtain ⟨r0, r1, hr⟩ : ∃ r0 r1, v.2.1 = [r0, r1] := by
    match hq : v.2.1, hl2 with
    | [a, b], _ => exact ⟨a, b, rfl⟩
  have hlen2 : (((List.length v.2.1 : Nat) : Int) != (2 : Int)) = false := by rw [hl2]; rfl
  have g0 : getI v.2.1 (0 : Int) = some r0 := by rw [hr]; rfl
  have g1 : getI v.2.1 (1 : Int) = some r1 := by rw [hr]; rfl
  show ∃ (e : Int) (w : WorkT), FX G 95 sg95 ((o, ()), (workOf s, ())) = some ((e, ()), (w, ())) ∧ doneP e w = (match v.2.1 with | [r0, r1] => smooth2 s o r0 r1 | _ => (zS, (14, ())))
  rw [hr]
  show ∃ (e : Int) (w : WorkT), FX G 95 sg95 ((o, ()), (workOf s, ())) = some ((e, ()), (w, ())) ∧ doneP e w = smooth2 s o r0 r1
  unfold smooth2
  by_cases h01 : r0.1 = r1.1
  · refine ⟨14, workOf s, go _ _ (cond_F hlen2 (bind_of g0 (bind_of g1 (cond_T ((beqI r0.1 r1.1).trans (decide_eq_true h01)) rfl)))), ?_⟩
    rw [if_pos h01]; rfl
  rw [if_neg h01]
  have b01 := (beqI r0.1 r1.1).trans (decide_eq_false h01)
  have tail : ∀ a b : Dart, v.2.1.Perm [a, b] → a.1 ≠ b.1 → ((FX G 122 sg122 ((b, ()), ())).bind fun (y7 : ((Dart × Unit) × Unit)) =>
        cond (delOk s.1.1 ((cntV s.1.1 (oId o) : Nat) : Int) (IntKind.wrap .i64 (((cntV s.1.1 (oId o) : Nat) : Int) + (1 : Int))))
         ((FX G 118 sg118 (((y7.1.1.1, y7.1.1.2), ()), (((delRow s.1.1 ((cntV s.1.1 (oId o) : Nat) : Int) (IntKind.wrap .i64 (((cntV s.1.1 (oId o) : Nat) : Int) + (1 : Int)))), (s.1.2, (s.2, ()))), ()))).bind fun (y8 : (((Option ((Fin 1) × Nat)) × Unit) × (WorkT × Unit))) =>
         optE y8.1.1
          (none) fun (p9 : ((Fin 1) × Nat)) =>
         cond (p9.1.val == 0)
          (((y8.2.1.1)[p9.2]?).bind fun (y10 : Vert) =>
          (FX G 121 sg121 ((y10.2.1, ((y7.1.1.1, y7.1.1.2), (a, ()))), ())).bind fun (y11 : (((List Dart) × Unit) × Unit)) =>
          ((y8.2.1.1)[p9.2]?).bind fun (y12 : Vert) =>
          (FX G 115 sg115 ((b.1, ()), (((List.set y8.2.1.1 p9.2 (y12.1, (y11.1.1, y12.2.2))), (y8.2.1.2.1, y8.2.1.2.2)), ()))).bind fun (y13 : ((Int × (Bool × Unit)) × (WorkT × Unit))) =>
          cond (delOk y13.2.1.2.1 y13.1.1 (IntKind.wrap .i64 (y13.1.1 + (1 : Int))))
           (LX G 95 sg95 Tryz.f95 sh95_0 (seg Tryz.prog 95 0) (((0 : Int), ()), (((y13.2.1.1, ((delRow y13.2.1.2.1 y13.1.1 (IntKind.wrap .i64 (y13.1.1 + (1 : Int)))), y13.2.1.2.2)), ((a, ()), ((b, ()), (((y7.1.1.1, y7.1.1.2), ()), ())))), ())))
           (none))
          (none))
         (none)) = some (((0 : Int), ()), (((smD s o a b).1, ((smD s o a b).2, (smG s.2 a b, ()))), ())) := by
    intro a b hp hab
    obtain ⟨p, q, h1, _, h2, _⟩ := splitV h.d.sv hv
    have pd : (darts s.1.1).Perm (a :: b :: darts (p ++ q)) := by
      have := (darts_mid p q v).trans (List.Perm.append_right _ hp)
      rw [← h1] at this; exact this
    have hdrop : dropV s.1.1 (oId o) = p ++ q := by rw [← hvi]; exact h2
    have hd1 : without s.1 (oId o) zI = (p ++ q, s.1.2) := by unfold without; rw [hdrop, drop_zE h.d.ge]
    have hnd := pd.nodup_iff.1 hgr.n
    have hbm : b ∈ ends s.1.2 := h.d.pd.mem_iff.1 (pd.mem_iff.2 (by simp))
    obtain ⟨e, he, he1, hb2⟩ := mem_ends.1 hbm
    have hfe : (findE s.1.2 b.1).isSome = true := by
      unfold findE; rw [List.find?_isSome]; exact ⟨e, he, by simpa using he1⟩
    obtain ⟨_, ho⟩ := otherD_in hb2
    have hfar : otherD b ∈ darts (p ++ q) := by
      have h3 : otherD b ∈ darts s.1.1 := h.d.is_end (s := (otherD b).2) hfe (by rcases ho with ⟨_, k⟩ | ⟨_, k⟩ <;> omega)
      rcases List.mem_cons.1 (pd.mem_iff.1 h3) with k | k
      · exact absurd (congrArg Prod.fst k) (fun k => hab k.symm)
      rcases List.mem_cons.1 k with k | k
      · have := congrArg Prod.snd k; omega
      · exact k
    have hrw1 : Rw (p ++ q) := ⟨by rw [← h2]; exact sort_dropV h.d.sv, (List.nodup_cons.1 (List.nodup_cons.1 hnd).2).2⟩
    have hsub : ∀ u ∈ p ++ q, u ∈ s.1.1 := fun u hu => by
      rw [h1]
      rcases List.mem_append.1 hu with k | k
      · exact List.mem_append_left _ k
      · exact List.mem_append_right _ (List.mem_cons_of_mem _ k)
    have hs1 : Sv (p ++ q) := ⟨by
      have := hs.n; rw [h1] at this; simp at this ⊢; omega, fun u hu => hs.r u (hsub u hu)⟩
    obtain ⟨dk1, dk2⟩ := del_vert h.d.sv hfs (by omega)
    rw [hdrop] at dk2
    obtain ⟨k, u, hk, hxu, hu⟩ := at_place hfar
    have e1 : (p ++ q).set k (u.1, (swapR u.2.1 (otherD b) a, u.2.2)) = (swapped (p ++ q, s.1.2) (otherD b) a).1 := swap_one hrw1 hk hxu _ s.1.2
    have hgv : ∀ w ∈ (swapped (p ++ q, s.1.2) (otherD b) a).1, GV w := swapped_gv (d := (p ++ q, s.1.2)) (fun w hw => h.d.gv w (hsub w hw)) _ _
    have eD : smD s o a b = ((swapped (p ++ q, s.1.2) (otherD b) a).1, dropE s.1.2 b.1) := by
      unfold smD
      rw [hd1]
      unfold without
      rw [drop_zV hgv]; rfl
    have ga := addGone_ok h.g h.n ((b.1, 0), smTo a b 0)
    rw [eD]
    refine bind_of (fx122 (hG _ _) b hb2) ?_
    refine cond_T dk1 ?_
    have r1 : ∀ l1 : List Vert, l1 = p ++ q → ((FX G 118 sg118 ((otherD b, ()), ((l1, (s.1.2, (s.2, ()))), ()))).bind fun (y8 : (((Option ((Fin 1) × Nat)) × Unit) × (WorkT × Unit))) =>
         optE y8.1.1
          (none) fun (p9 : ((Fin 1) × Nat)) =>
         cond (p9.1.val == 0)
          (((y8.2.1.1)[p9.2]?).bind fun (y10 : Vert) =>
          (FX G 121 sg121 ((y10.2.1, (otherD b, (a, ()))), ())).bind fun (y11 : (((List Dart) × Unit) × Unit)) =>
          ((y8.2.1.1)[p9.2]?).bind fun (y12 : Vert) =>
          (FX G 115 sg115 ((b.1, ()), (((List.set y8.2.1.1 p9.2 (y12.1, (y11.1.1, y12.2.2))), (y8.2.1.2.1, y8.2.1.2.2)), ()))).bind fun (y13 : ((Int × (Bool × Unit)) × (WorkT × Unit))) =>
          cond (delOk y13.2.1.2.1 y13.1.1 (IntKind.wrap .i64 (y13.1.1 + (1 : Int))))
           (LX G 95 sg95 Tryz.f95 sh95_0 (seg Tryz.prog 95 0) (((0 : Int), ()), (((y13.2.1.1, ((delRow y13.2.1.2.1 y13.1.1 (IntKind.wrap .i64 (y13.1.1 + (1 : Int)))), y13.2.1.2.2)), ((a, ()), ((b, ()), ((otherD b, ()), ())))), ())))
           (none))
          (none)) = some (((0 : Int), ()), (((swapped (p ++ q, s.1.2) (otherD b) a).1, (dropE s.1.2 b.1, (smG s.2 a b, ()))), ())) := by
      intro l1 hl1
      subst hl1
      refine bind_of (fx118 hG (p ++ q, (s.1.2, (s.2, ()))) (otherD b) hrw1 hs1.n hs1.r hk hxu) ?_
      refine opt_S rfl (cond_T rfl (bind_of hk ?_))
      refine bind_of (fx121 hG u.2.1 (otherD b) a (hs1.r u hu)) ?_
      refine bind_of hk ?_
      have r2 : ∀ l2 : List Vert, l2 = (swapped (p ++ q, s.1.2) (otherD b) a).1 → ((FX G 115 sg115 ((b.1, ()), ((l2, (s.1.2, (s.2, ()))), ()))).bind fun (y13 : ((Int × (Bool × Unit)) × (WorkT × Unit))) =>
          cond (delOk y13.2.1.2.1 y13.1.1 (IntKind.wrap .i64 (y13.1.1 + (1 : Int))))
           (LX G 95 sg95 Tryz.f95 sh95_0 (seg Tryz.prog 95 0) (((0 : Int), ()), (((y13.2.1.1, ((delRow y13.2.1.2.1 y13.1.1 (IntKind.wrap .i64 (y13.1.1 + (1 : Int)))), y13.2.1.2.2)), ((a, ()), ((b, ()), ((otherD b, ()), ())))), ())))
           (none)) = some (((0 : Int), ()), (((swapped (p ++ q, s.1.2) (otherD b) a).1, (dropE s.1.2 b.1, (smG s.2 a b, ()))), ())) := by
        intro l2 hl2
        subst hl2
        refine bind_of (fx115 hG ((swapped (p ++ q, s.1.2) (otherD b) a).1, (s.1.2, (s.2, ()))) b.1 h.d.se (by show s.1.2.length ≤ _; omega)) ?_
        obtain ⟨ek1, ek2⟩ := del_edge h.d.se hfe (by omega)
        refine cond_T ek1 ?_
        have r3 : ∀ l3 : List EdgeT, l3 = dropE s.1.2 b.1 → (LX G 95 sg95 Tryz.f95 sh95_0 (seg Tryz.prog 95 0) (((0 : Int), ()), ((((swapped (p ++ q, s.1.2) (otherD b) a).1, (l3, (s.2, ()))), ((a, ()), ((b, ()), ((otherD b, ()), ())))), ()))) = some (((0 : Int), ()), (((swapped (p ++ q, s.1.2) (otherD b) a).1, (dropE s.1.2 b.1, (smG s.2 a b, ()))), ())) := by
          intro l3 hl3
          subst hl3
          have eb : b = (b.1, b.2) := rfl
          have eo : otherD b = (b.1, (otherD b).2) := rfl
          rcases ho with ⟨hb0, ho1⟩ | ⟨hb1, ho0⟩
          · rw [hb0] at eb; rw [ho1] at eo
            have t0 : smTo a b 0 = zD := by unfold smTo; rw [if_neg (by rw [eo]; simp)]
            have t1 : smTo a b 1 = a := by unfold smTo; rw [if_pos eo.symm]
            rw [t0, ← eb] at ga
            have eG : smG s.2 a b = addGone (addGone s.2 (b, zD)) (otherD b, a) := by unfold smG; rw [t0, t1, ← eb, ← eo]
            rw [eG]
            refine lx_of (j := 0) (by kernel_rfl) ((nl95_0 _ _ _).trans ?_)
            refine cond_T rfl (cond_T (by show (b.2 == (0 : Int)) = true; simp [hb0]) ?_)
            refine bind_of (fx116 hG ((swapped (p ++ q, s.1.2) (otherD b) a).1, (dropE s.1.2 b.1, (s.2, ()))) b zD h.g (by show s.2.length ≤ _; omega)) ?_
            refine lx_of (j := 0) (by kernel_rfl) ((nl95_0 _ _ _).trans ?_)
            refine cond_T rfl (cond_F (by show (b.2 == (1 : Int)) = false; simp [hb0]) ?_)
            refine bind_of (fx116 hG ((swapped (p ++ q, s.1.2) (otherD b) a).1, (dropE s.1.2 b.1, (addGone s.2 (b, zD), ()))) (otherD b) a ga.1 (by have := ga.2; show (addGone s.2 (b, zD)).length ≤ _; omega)) ?_
            refine lx_of (j := 0) (by kernel_rfl) ((nl95_0 _ _ _).trans ?_)
            exact cond_F rfl rfl
          · rw [hb1] at eb; rw [ho0] at eo
            have t0 : smTo a b 0 = a := by unfold smTo; rw [if_pos eo.symm]
            have t1 : smTo a b 1 = zD := by unfold smTo; rw [if_neg (by rw [eo]; simp)]
            rw [t0, ← eo] at ga
            have eG : smG s.2 a b = addGone (addGone s.2 (otherD b, a)) (b, zD) := by unfold smG; rw [t0, t1, ← eb, ← eo]
            rw [eG]
            refine lx_of (j := 0) (by kernel_rfl) ((nl95_0 _ _ _).trans ?_)
            refine cond_T rfl (cond_F (by show (b.2 == (0 : Int)) = false; simp [hb1]) ?_)
            refine bind_of (fx116 hG ((swapped (p ++ q, s.1.2) (otherD b) a).1, (dropE s.1.2 b.1, (s.2, ()))) (otherD b) a h.g (by show s.2.length ≤ _; omega)) ?_
            refine lx_of (j := 0) (by kernel_rfl) ((nl95_0 _ _ _).trans ?_)
            refine cond_T rfl (cond_T (by show (b.2 == (1 : Int)) = true; simp [hb1]) ?_)
            refine bind_of (fx116 hG ((swapped (p ++ q, s.1.2) (otherD b) a).1, (dropE s.1.2 b.1, (addGone s.2 (otherD b, a), ()))) b zD ga.1 (by have := ga.2; show (addGone s.2 (otherD b, a)).length ≤ _; omega)) ?_
            refine lx_of (j := 0) (by kernel_rfl) ((nl95_0 _ _ _).trans ?_)
            exact cond_F rfl rfl
        exact r3 _ ek2
      exact r2 _ e1
    exact r1 _ dk2
  have bo : ∀ y : Dart, ((y.1.1 == (oOther o).1) && (y.1.2 == (oOther o).2)) = decide (y.1 = oOther o) := fun y => beqI y.1 (oOther o)
  by_cases h0 : r0.1 = oOther o
  · rw [if_pos h0]
    refine ⟨0, ((smD s o r1 r0).1, ((smD s o r1 r0).2, (smG s.2 r1 r0, ()))), go _ _ (cond_F hlen2 (bind_of g0 (bind_of g1 (cond_F b01 (bind_of g0 (bind_of g1 (cond_T ((bo r0).trans (decide_eq_true h0)) ?_))))))), rfl⟩
    refine cond_not_of ((bo r0).trans (decide_eq_true h0)) (cond_F rfl ?_)
    exact tail r1 r0 (by rw [hr]; exact List.Perm.swap _ _ _) (fun k => h01 k.symm)
  rw [if_neg h0]
  by_cases h1 : r1.1 = oOther o
  · rw [if_pos h1]
    refine ⟨0, ((smD s o r0 r1).1, ((smD s o r0 r1).2, (smG s.2 r0 r1, ()))), go _ _ (cond_F hlen2 (bind_of g0 (bind_of g1 (cond_F b01 (bind_of g0 (bind_of g1 (cond_F ((bo r0).trans (decide_eq_false h0)) ?_))))))), rfl⟩
    refine cond_not_of ((bo r1).trans (decide_eq_true h1)) (cond_F rfl ?_)
    exact tail r0 r1 (by rw [hr]) h01
  rw [if_neg h1]
  refine ⟨14, workOf s, go _ _ (cond_F hlen2 (bind_of g0 (bind_of g1 (cond_F b01 (bind_of g0 (bind_of g1 (cond_F ((bo r0).trans (decide_eq_false h0)) ?_))))))), rfl⟩
  exact cond_not_of ((bo r1).trans (decide_eq_false h1)) (cond_T rfl rfl)
end Go.Vs

set_option linter.unusedVariables false
set_option linter.unusedSimpArgs false
namespace Go.Vs
open Go.Proofs

theorem nodup_inj {row : List Dart} (hn : row.Nodup) {i j : Nat} {hi : i < row.length} {hj : j < row.length} (h : row[i] = row[j]) : i = j := by
  rcases Nat.lt_trichotomy i j with k | k | k
  · exact absurd h (List.pairwise_iff_getElem.1 hn i j hi hj k)
  · exact k
  · exact absurd h.symm (List.pairwise_iff_getElem.1 hn j i hj hi k)
theorem nodup_get {row : List Dart} (hn : row.Nodup) {i j : Nat} {x : Dart} (hi : row[i]? = some x) (hj : row[j]? = some x) : i = j := by
  obtain ⟨h1, h2⟩ := List.getElem?_eq_some_iff.1 hi
  obtain ⟨h3, h4⟩ := List.getElem?_eq_some_iff.1 hj
  exact nodup_inj hn (h2.trans h4.symm)
theorem turn_is_rot (row : List Dart) : ∃ j, j ≤ row.length ∧ turn row = rot row j := by
  by_cases h0 : row.length = 0
  · have : row = [] := by simpa using h0
    subst this; exact ⟨0, by simp, rfl⟩
  · exact ⟨mini row row 0 0, Nat.le_of_lt (mini_lt row row 0 0 (by omega) (by omega)), rfl⟩
theorem idx_get {row : List Dart} (hn : row.Nodup) {k : Nat} {x : Dart} (hk : row[k]? = some x) : idx x row 0 = (k : Int) := by
  have := idx_at (d := x) (row := row) (k := k) (i := 0) hk (fun j hj he => by have := nodup_get hn hk he; omega)
  omega
end Go.Vs

set_option linter.unusedVariables false
set_option linter.unusedSimpArgs false
namespace Go.Vs
open Go.Proofs
variable {G : (f : FuncId) → (g : Sig) → Option (g.A → Option g.B)}

theorem any_findV (l : List Vert) (x : ID) : l.any (fun w => decide (w.1 = x)) = (findV l x).isSome := by
  rw [Bool.eq_iff_iff, List.any_eq_true]; unfold findV; rw [List.find?_isSome]
theorem any_findE (l : List EdgeT) (x : ID) : l.any (fun w => decide (w.1 = x)) = (findE l x).isSome := by
  rw [Bool.eq_iff_iff, List.any_eq_true]; unfold findE; rw [List.find?_isSome]
theorem setP_setR (s : StateT) (o : OpT) : doneP (setP (workOf s) o).1 (setP (workOf s) o).2 = setR s o := by
  unfold setP setR hasV hasE
  rw [any_findV, any_findE]
  by_cases ho : oOfE o = true
  · have hv : s.1.1.map (setV o) = s.1.1 := by
      conv => rhs; rw [← List.map_id s.1.1]
      exact List.map_congr_left fun u hu => by unfold setV; rw [if_neg (by rw [ho]; simp)]; rfl
    rw [if_pos ho, ho, hv]
    show doneP (if (findE s.1.2 (oId o)).isSome = true then _ else _ : Int × WorkT).1 (if (findE s.1.2 (oId o)).isSome = true then _ else _ : Int × WorkT).2 = _
    cases (findE s.1.2 (oId o)).isSome <;> rfl
  · have ho' : oOfE o = false := by simpa using ho
    have he : s.1.2.map (setE o) = s.1.2 := by
      conv => rhs; rw [← List.map_id s.1.2]
      exact List.map_congr_left fun u hu => by unfold setE; rw [if_neg (by rw [ho']; simp)]; rfl
    rw [if_neg ho, ho', he]
    show doneP (if (findV s.1.1 (oId o)).isSome = true then _ else _ : Int × WorkT).1 (if (findV s.1.1 (oId o)).isSome = true then _ else _ : Int × WorkT).2 = _
    cases (findV s.1.1 (oId o)).isSome <;> rfl
theorem fx66_set (hG : ∀ f g, G f g = none) (w : WorkT) (o : OpT) (hk : 7 ≤ o.1) (hv : SortV w.1) (he : SortE w.2.1) (hlv : w.1.length ≤ 50000000) (hle : w.2.1.length ≤ 50000000) :
    FX G 66 sg66 ((o, ()), (w, ())) = some (((setP w o).1, ()), ((setP w o).2, ())) := by
  refine fx_of (fn := Tryz.f66) (hG _ _) (by kernel_rfl) (by kernel_rfl) ((nf66 _ _ _).trans ?_)
  have kn : ∀ k : Int, k < 7 → (o.1 == k) = false := fun k hk2 => kne (by omega)
  refine cond_F (kn 1 (by omega)) (cond_F (kn 2 (by omega)) (cond_F (kn 3 (by omega)) (cond_F (kn 4 (by omega)) (cond_F (kn 5 (by omega)) (cond_F (kn 6 (by omega)) ?_)))))
  exact bind_of (fx96 hG w o hv he hlv hle) rfl
/-! ### Set, and set back -/
def opL (x : ID) (e : Bool) (t : ByteArray) : OpT := (7, (x, (zI, (zI, (zC, (zC, (e, (t, 0))))))))
def opA (x : ID) (e : Bool) (n : Int) : OpT := (8, (x, (zI, (zI, (zC, (zC, (e, (e0, n))))))))
theorem inR0 : inR 0 := by unfold inR; omega
theorem uniqV {l : List Vert} (hs : SortV l) {v w : Vert} (hv : v ∈ l) (hw : w ∈ l) (h : w.1 = v.1) : w = v := by
  have h1 := findV_of hs hv
  have h2 := findV_of hs hw
  rw [h, h1] at h2
  exact (Option.some.inj h2).symm
/-- What is behind a label or an attribute that was set. -/
structure Lay (s t : StateT) : Prop where
  v : SortV t.1.1
  e : SortE t.1.2
  sm : Sm t.1
  g : t.2.length ≤ 50000000
end Go.Vs

set_option linter.unusedVariables false
set_option linter.unusedSimpArgs false
namespace Go.Vs
open Go.Proofs
variable {G : (f : FuncId) → (g : Sig) → Option (g.A → Option g.B)}

theorem ends_length (l : List EdgeT) : (ends l).length = 2 * l.length := by
  induction l with
  | nil => rfl
  | cons e r ih => rw [ends_cons]; simp [ih]; omega
theorem ring_le {l : List Vert} {v : Vert} (h : v ∈ l) : v.2.1.length ≤ (darts l).length := by
  obtain ⟨a, b, rfl⟩ := List.append_of_mem h
  rw [darts_app, darts_cons]; simp; omega
theorem Wf.ring80 {d : Diag} (h : Wf d) : ∀ v ∈ d.1, v.2.1.length ≤ 80 := fun v hv => by
  have h1 := ring_le hv
  have h2 := h.pd.length_eq
  have h3 := h.ne
  rw [ends_length] at h2; omega
theorem Wf.sm {d : Diag} (h : Wf d) : Sm d := ⟨by have := h.nv; omega, by have := h.ne; omega, fun v hv => by have := h.ring80 v hv; omega⟩
theorem Wf.small {d : Diag} (h : Wf d) : Sv d.1 := ⟨by have := h.nv; omega, fun v hv => by have := h.ring80 v hv; omega⟩
theorem doneP_new (s : StateT) (o : OpT) : doneP (newVP (workOf s) (oId o, ([], (e0, 0)))).1 (newVP (workOf s) (oId o, ([], (e0, 0)))).2 = addVR s o := by
  by_cases hh : (findV s.1.1 (oId o)).isSome = true
  · have a : newVP (workOf s) (oId o, ([], (e0, 0))) = (12, workOf s) := if_pos hh
    have b : addVR s o = (zS, (12, ())) := if_pos hh
    rw [a, b]; rfl
  by_cases h : 24 ≤ s.1.1.length
  · have a : newVP (workOf s) (oId o, ([], (e0, 0))) = (3, workOf s) := (if_neg hh).trans (if_pos h)
    have b : addVR s o = (zS, (3, ())) := (if_neg hh).trans (if_pos h)
    rw [a, b]; rfl
  · have a : newVP (workOf s) (oId o, ([], (e0, 0))) = (0, (addV (oId o, ([], (e0, 0))) (workOf s).1, (workOf s).2)) := (if_neg hh).trans (if_neg h)
    have b : addVR s o = (((addV (oId o, ([], (e0, 0))) s.1.1, s.1.2), s.2), (0, ())) := (if_neg hh).trans (if_neg h)
    rw [a, b]; rfl
theorem doneP_rem {s : StateT} (h : WfS s) (o : OpT) : doneP (remVP (workOf s) (oId o)).1 (remVP (workOf s) (oId o)).2 = remVR s o := by
  unfold remVP remVR vertex
  show doneP (match findV s.1.1 (oId o) with | none => (13, workOf s) | some v => if 0 < v.2.1.length then (14, workOf s) else (0, (dropV s.1.1 (oId o), (s.1.2, (s.2, ())))) : Int × WorkT).1 (match findV s.1.1 (oId o) with | none => (13, workOf s) | some v => if 0 < v.2.1.length then (14, workOf s) else (0, (dropV s.1.1 (oId o), (s.1.2, (s.2, ())))) : Int × WorkT).2 = _
  cases findV s.1.1 (oId o) with
  | none => rfl
  | some v =>
    simp only
    by_cases hl : 0 < v.2.1.length
    · rw [if_pos hl, if_pos hl]; rfl
    · rw [if_neg hl, if_neg hl]
      unfold without
      rw [drop_zE h.d.ge]; rfl
/-- What a kind of operation does, where it may be. -/
def kindR (s : StateT) (o : OpT) : StateT × (Int × Unit) :=
  if o.1 = 1 then addVR s o else if o.1 = 2 then remVR s o else if o.1 = 3 then linkR s o else if o.1 = 4 then cutR s o else if o.1 = 5 then splitR s o else if o.1 = 6 then smoothR s o else setR s o
theorem oneR_kind (s : StateT) (o : OpT) : oneR s o = if mayOp o ≠ 0 then (zS, (mayOp o, ())) else kindR s o := rfl
theorem fx66_but (hG : ∀ f g, G f g = none) (s : StateT) (o : OpT) (h : WfS s) (hm : mayOp o = 0) (h3 : o.1 = 3 → ∃ (e : Int) (w : WorkT), FX G 92 sg92 ((o, ()), (workOf s, ())) = some ((e, ()), (w, ())) ∧ doneP e w = linkR s o) :
    ∃ (e : Int) (w : WorkT), FX G 66 sg66 ((o, ()), (workOf s, ())) = some ((e, ()), (w, ())) ∧ doneP e w = kindR s o := by
  have hk := may_kind hm
  have hsv := h.d.small
  have hnv := h.d.nv; have hne := h.d.ne
  have start : ∀ (e : Int) (w : WorkT), nfE 66 sg66 Tryz.f66 (FX G) (LX G 66 sg66 Tryz.f66) ((o, ()), (workOf s, ())) = some ((e, ()), (w, ())) → FX G 66 sg66 ((o, ()), (workOf s, ())) = some ((e, ()), (w, ())) := fun e w a =>
    fx_of (fn := Tryz.f66) (hG _ _) (by kernel_rfl) (by kernel_rfl) a
  unfold kindR
  by_cases h1 : o.1 = 1
  · rw [if_pos h1]
    refine ⟨_, _, start _ _ ((nf66 _ _ _).trans (cond_T (keq h1) (bind_of (fx90 hG (workOf s) (oId o, ([], (e0, 0))) h.d.sv hsv.n) rfl))), ?_⟩
    exact doneP_new s o
  rw [if_neg h1]
  by_cases h2 : o.1 = 2
  · rw [if_pos h2]
    refine ⟨_, _, start _ _ ((nf66 _ _ _).trans (cond_F (kne h1) (cond_T (keq h2) (bind_of (fx91 hG (workOf s) o h.d.sv hsv.n) rfl)))), ?_⟩
    exact doneP_rem h o
  rw [if_neg h2]
  by_cases hk3 : o.1 = 3
  · rw [if_pos hk3]
    obtain ⟨e, w, a, b⟩ := h3 hk3
    exact ⟨e, w, start _ _ ((nf66 _ _ _).trans (cond_F (kne h1) (cond_F (kne h2) (cond_T (keq hk3) (bind_of a rfl))))), b⟩
  rw [if_neg hk3]
  by_cases hk4 : o.1 = 4
  · rw [if_pos hk4]
    obtain ⟨e, w, a, b⟩ := fx93 hG s o h hsv
    exact ⟨e, w, start _ _ ((nf66 _ _ _).trans (cond_F (kne h1) (cond_F (kne h2) (cond_F (kne hk3) (cond_T (keq hk4) (bind_of a rfl)))))), b⟩
  rw [if_neg hk4]
  by_cases hk5 : o.1 = 5
  · rw [if_pos hk5]
    obtain ⟨e, w, a, b⟩ := fx94 hG s o h hsv hm hk5
    exact ⟨e, w, start _ _ ((nf66 _ _ _).trans (cond_F (kne h1) (cond_F (kne h2) (cond_F (kne hk3) (cond_F (kne hk4) (cond_T (keq hk5) (bind_of a rfl))))))), b⟩
  rw [if_neg hk5]
  by_cases hk6 : o.1 = 6
  · rw [if_pos hk6]
    obtain ⟨e, w, a, b⟩ := fx95 hG s o h hsv
    exact ⟨e, w, start _ _ ((nf66 _ _ _).trans (cond_F (kne h1) (cond_F (kne h2) (cond_F (kne hk3) (cond_F (kne hk4) (cond_F (kne hk5) (cond_T (keq hk6) (bind_of a rfl)))))))), b⟩
  rw [if_neg hk6]
  refine ⟨_, _, fx66_set hG (workOf s) o (by omega) h.d.sv h.d.se hsv.n (by show s.1.2.length ≤ _; omega), ?_⟩
  exact setP_setR s o
/-- One operation is done as the document's reference does it. -/
theorem fx14_but (hG : ∀ f g, G f g = none) (s : StateT) (o : OpT) (h : WfS s) (hf : Fit o) (h3 : mayOp o = 0 → o.1 = 3 → ∃ (e : Int) (w : WorkT), FX G 92 sg92 ((o, ()), (workOf s, ())) = some ((e, ()), (w, ())) ∧ doneP e w = linkR s o) :
    FX G 14 sg14 ((s, o, ()), ()) = some (oneR s o, ()) := by
  rw [oneR_kind]
  have hn := h.n
  by_cases hm : mayOp o = 0
  · obtain ⟨e, w, a, b⟩ := fx66_but hG s o h hm (h3 hm)
    refine (fx14_of hG s o (fx43 hG o hf) h.d.sm (by omega) (fun _ => a)).trans ?_
    rw [hm, if_neg (by simp), b]; rfl
  · rw [if_pos hm]
    refine fx_of (fn := Tryz.f14) (hG _ _) (by kernel_rfl) (by kernel_rfl) ((nf14 _ _ _).trans ?_)
    refine bind_of (fx43 hG o hf) ?_
    exact cond_T (by simpa using hm) rfl
end Go.Vs

set_option linter.unusedVariables false
set_option linter.unusedSimpArgs false
namespace Go.Vs
open Go.Proofs
variable {G : (f : FuncId) → (g : Sig) → Option (g.A → Option g.B)}

/-- AddEdge is done as the document's reference does it. -/
def LinkOk (G : (f : FuncId) → (g : Sig) → Option (g.A → Option g.B)) (o : OpT) : Prop := ∀ s, WfS s → mayOp o = 0 → o.1 = 3 → ∃ (e : Int) (w : WorkT), FX G 92 sg92 ((o, ()), (workOf s, ())) = some ((e, ()), (w, ())) ∧ doneP e w = linkR s o
theorem kind_one {s : StateT} {o : OpT} (hm : mayOp o = 0) : kindR s o = oneR s o := by rw [oneR_kind, if_neg (by simp [hm])]
theorem lx44 (hG : ∀ f g, G f g = none) (l : List OpT) (hl : l.length ≤ 1073741824) (hm : ∀ o ∈ l, mayOp o = 0) (h3 : ∀ o ∈ l, LinkOk G o) : ∀ (n i : Nat) (s : StateT), i + n = l.length → WfS s →
    LX G 44 sg44 Tryz.f44 sh44_0 (seg Tryz.prog 44 0) ((l, (((l.length : Nat) : Int), ((i : Int), ()))), ((zW, (workOf s, ())), ())) = some (goR (l.drop i) s, ()) := by
  intro n
  induction n with
  | zero =>
    intro i s hi hw
    refine lx_of (j := 0) (by kernel_rfl) ((nl44_0 _ _ _).trans ?_)
    refine cond_F (decide_eq_false (show ¬ ((i : Int) < ((l.length : Nat) : Int)) by omega)) ?_
    rw [List.drop_eq_nil_of_le (by omega)]; rfl
  | succ n ih =>
    intro i s hi hw
    have hlt : i < l.length := by omega
    have ho := hm l[i] (List.getElem_mem hlt)
    obtain ⟨e, w, h1, h2⟩ := fx66_but hG s l[i] hw ho (h3 _ (List.getElem_mem hlt) s hw ho)
    rw [kind_one ho] at h2
    refine lx_of (j := 0) (by kernel_rfl) ((nl44_0 _ _ _).trans ?_)
    refine cond_T (lt_up hlt) (bind_of (getI_of (List.getElem?_eq_getElem hlt)) ?_)
    refine bind_of h1 ?_
    rw [List.drop_eq_getElem_cons hlt, goR]
    have hone := hw.one l[i]
    by_cases he : e = 0
    · have e1 : doneP e w = (stateOf w, (0, ())) := if_neg (by simp [he])
      rw [e1] at h2
      rw [← h2] at hone ⊢
      rw [if_neg (by simp)]
      refine cond_F (show (e != 0) = false by simp [he]) ?_
      have := ih (i + 1) (stateOf w) (by omega) hone
      rw [← wrap_up hlt hl] at this
      exact this
    · have e1 : doneP e w = (zS, (e, ())) := if_pos he
      rw [e1] at h2
      rw [← h2, if_pos he]
      exact cond_T (show (e != 0) = true by simp [he]) rfl
theorem fx44_l (hG : ∀ f g, G f g = none) (s : StateT) (l : List OpT) (hw : WfS s) (hl : l.length ≤ 1073741824) (hm : ∀ o ∈ l, mayOp o = 0) (h3 : ∀ o ∈ l, LinkOk G o) : FX G 44 sg44 ((s, l, ()), ()) = some (goR l s, ()) := by
  have hn := hw.n
  refine fx_of (fn := Tryz.f44) (hG _ _) (by kernel_rfl) (by kernel_rfl) ((nf44 _ _ _).trans ?_)
  refine bind_of (fx60 hG s.1 hw.d.sm) ?_
  refine bind_of (fx61 (hG _ _) s.2 (by omega)) ?_
  have := lx44 hG l hl hm h3 l.length 0 s (by omega) hw
  rw [List.drop_zero] at this
  exact this
theorem firstBad_ok (l : List OpT) (h : firstBad l = 0) : ∀ o ∈ l, mayOp o = 0 := by
  induction l with
  | nil => intro o ho; simp at ho
  | cons o r ih =>
    rw [firstBad] at h
    by_cases ho : mayOp o = 0
    · rw [if_neg (fun k => k ho)] at h
      intro p hp
      rcases List.mem_cons.1 hp with e | hp
      · rw [e]; exact ho
      · exact ih h p hp
    · rw [if_pos ho] at h; exact absurd h ho
theorem mayEdit_ok {l : List OpT} (h : mayEdit l = 0) : ∀ o ∈ l, mayOp o = 0 := by
  unfold mayEdit at h
  split at h
  · exact firstBad_ok l h
  · cases h
/-- An edit is done as the document's reference does it. -/
theorem fx30 (hG : ∀ f g, G f g = none) (s : StateT) (l : List OpT) (hw : WfS s) (hl : l.length ≤ 1073741824) (hf : ∀ o ∈ l, Fit o) (h3 : ∀ o ∈ l, LinkOk G o) : FX G 30 sg30 ((s, l, ()), ()) = some (applyR s l, ()) := by
  refine fx_of (fn := Tryz.f30) (hG _ _) (by kernel_rfl) (by kernel_rfl) ((nf30 _ _ _).trans ?_)
  refine bind_of (fx58 hG l hl hf) ?_
  unfold applyR
  by_cases hm : mayEdit l = 0
  · rw [if_neg (by simp [hm])]
    refine cond_F (show (mayEdit l != 0) = false by simp [hm]) ?_
    exact bind_of (fx44_l hG s l hw hl (mayEdit_ok hm) h3) rfl
  · rw [if_pos hm]
    exact cond_T (show (mayEdit l != 0) = true by simp [hm]) rfl
theorem linkOk_no {o : OpT} (h : o.1 ≠ 3) : LinkOk G o := fun _ _ _ k => absurd k h
end Go.Vs
