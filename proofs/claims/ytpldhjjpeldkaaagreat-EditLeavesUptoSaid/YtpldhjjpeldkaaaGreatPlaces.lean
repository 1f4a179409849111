/- What the program computes at vertices, written plainly. -/
import Derived.Test.YtpldhjjpeldkaaaGreatRefB

set_option linter.unusedVariables false
set_option linter.unusedSimpArgs false
namespace Go.Vs
open Go.Proofs
variable {G : (f : FuncId) → (g : Sig) → Option (g.A → Option g.B)}

theorem fx86 (hG : G 86 sg86 = none) (x : ID) : FX G 86 sg86 ((x, ()), ()) = some ((mayI x, ()), ()) := by
  refine fx_of (fn := Tryz.f86) hG (by kernel_rfl) (by kernel_rfl) ((nf86 _ _ _).trans ?_)
  obtain ⟨a, b⟩ := x
  show (cond (decide (a ≥ 1)) (cond (decide (a ≤ 8)) (cond (decide (b ≥ 1)) (some ((decide (b ≤ 1048576), ()), ())) (some ((false, ()), ()))) (some ((false, ()), ()))) (some ((false, ()), ())) : Option ((Bool × Unit) × Unit)) = some ((mayI (a, b), ()), ())
  unfold mayI
  simp only [cond_eq_ite]
  by_cases h1 : (1 : Int) ≤ a <;> by_cases h2 : a ≤ 8 <;> by_cases h3 : (1 : Int) ≤ b <;> simp [h1, h2, h3]
theorem fx159 (hG : G 159 sg159 = none) (n : Int) : FX G 159 sg159 ((n, ()), ()) = some ((false, ()), ()) := by
  refine fx_of (fn := Tryz.f159) hG (by kernel_rfl) (by kernel_rfl) ((nf159 _ _ _).trans ?_)
  exact congrArg (fun b : Bool => some ((b, ()), ())) (show (n != n) = false by simp)
def cmpI (a b : Int) : Int := if a < b then -1 else if a > b then 1 else 0
theorem fx145 (hG : ∀ f g, G f g = none) (a b : Int) : FX G 145 sg145 ((a, b, ()), ()) = some ((cmpI a b, ()), ()) := by
  refine fx_of (fn := Tryz.f145) (hG _ _) (by kernel_rfl) (by kernel_rfl) ((nf145 _ _ _).trans ?_)
  refine bind_of (fx159 (hG _ _) a) ?_
  refine bind_of (fx159 (hG _ _) b) ?_
  refine cond_F rfl (cond_F rfl ?_)
  unfold cmpI
  by_cases h1 : a < b
  · rw [if_pos h1]; exact cond_T (decide_eq_true h1) rfl
  rw [if_neg h1]
  refine cond_F (decide_eq_false h1) ?_
  by_cases h2 : a > b
  · rw [if_pos h2]; exact cond_T (decide_eq_true h2) rfl
  rw [if_neg h2]; exact cond_F (decide_eq_false h2) rfl
theorem fx144 (hG : G 144 sg144 = none) (a b : Int) : FX G 144 sg144 (([a, b], ()), ()) = some ((if a ≠ 0 then a else b, ()), ()) := by
  refine fx_of (fn := Tryz.f144) hG (by kernel_rfl) (by kernel_rfl) ((nf144 _ _ _).trans ?_)
  by_cases ha : a = 0
  · rw [if_neg (by simp [ha])]
    refine lx_of (j := 0) (by kernel_rfl) ((nl144_0 _ _ _).trans ?_)
    refine cond_T rfl (bind_of (a := a) rfl ?_)
    refine cond_F (show (a != 0) = false by simp [ha]) ?_
    refine lx_of (j := 0) (by kernel_rfl) ((nl144_0 _ _ _).trans ?_)
    refine cond_T rfl (bind_of (a := b) rfl ?_)
    by_cases hb : b = 0
    · refine cond_F (show (b != 0) = false by simp [hb]) ?_
      refine lx_of (j := 0) (by kernel_rfl) ((nl144_0 _ _ _).trans ?_)
      rw [hb]
      exact cond_F rfl rfl
    · exact cond_T (show (b != 0) = true by simp [hb]) rfl
  · rw [if_pos ha]
    refine lx_of (j := 0) (by kernel_rfl) ((nl144_0 _ _ _).trans ?_)
    refine cond_T rfl (bind_of (a := a) rfl ?_)
    exact cond_T (show (a != 0) = true by simp [ha]) rfl
theorem fx127 (hG : ∀ f g, G f g = none) (a b : ID) : FX G 127 sg127 ((a, b, ()), ()) = some ((ordI a b, ()), ()) := by
  refine fx_of (fn := Tryz.f127) (hG _ _) (by kernel_rfl) (by kernel_rfl) ((nf127 _ _ _).trans ?_)
  unfold ordI
  by_cases h : a = b
  · rw [if_pos h]; exact cond_T ((beqI a b).trans (decide_eq_true h)) rfl
  rw [if_neg h]
  refine cond_F ((beqI a b).trans (decide_eq_false h)) ?_
  refine bind_of (fx145 hG a.1 b.1) ?_
  refine bind_of (fx145 hG a.2 b.2) ?_
  refine bind_of (fx144 (hG _ _) (cmpI a.1 b.1) (cmpI a.2 b.2)) ?_
  refine congrArg (fun n : Int => some ((n, ()), ())) ?_
  obtain ⟨a1, a2⟩ := a
  obtain ⟨b1, b2⟩ := b
  unfold cmpI ltI
  simp only [Prod.mk.injEq, not_and] at h
  simp only
  by_cases h1 : a1 < b1
  · simp [h1]
  · by_cases h2 : a1 > b1
    · have : ¬ a1 = b1 := by omega
      simp [h1, h2, this]
    · have h3 : a1 = b1 := by omega
      have h4 := h h3
      subst h3
      by_cases h5 : a2 < b2
      · simp [h5]
      · have : a2 > b2 := by omega
        simp [h5, this]
theorem fx126 (hG : ∀ f g, G f g = none) (v : Vert) (x : ID) : FX G 126 sg126 ((v, x, ()), ()) = some ((ordI v.1 x, ()), ()) := by
  refine fx_of (fn := Tryz.f126) (hG _ _) (by kernel_rfl) (by kernel_rfl) ((nf126 _ _ _).trans ?_)
  exact bind_of (fx127 hG v.1 x) rfl

/-! ### Places among vertices -/
theorem mid_eq {i j : Nat} (hi : i ≤ 1000000000) (hj : j ≤ 1000000000) : IntKind.wrap .i64 (shrI .u64 (IntKind.wrap .u64 (IntKind.wrap .i64 ((i : Int) + (j : Int)))) (1 : Int)) = (((i + j) / 2 : Nat) : Int) := by
  have e1 : IntKind.wrap .i64 ((i : Int) + (j : Int)) = ((i + j : Nat) : Int) := by rw [wrap_small (by omega) (by omega)]; rfl
  have e2 : IntKind.wrap .u64 ((i + j : Nat) : Int) = ((i + j : Nat) : Int) := by
    unfold IntKind.wrap; simp [IntKind.bits, IntKind.signed]; omega
  have e3 : shrI .u64 ((i + j : Nat) : Int) 1 = (((i + j) / 2 : Nat) : Int) := by
    unfold shrI
    have : (min (Int.toNat 1) IntKind.u64.bits) = 1 := by decide
    rw [this, Int.fdiv_eq_ediv_of_nonneg _ (by omega)]
    rfl
  rw [e1, e2, e3, wrap_small (by omega) (by omega)]
/-- How many there are ahead of a name. -/
def cntV (l : List Vert) (x : ID) : Nat := l.countP fun v => ltI v.1 x
def SortV (l : List Vert) : Prop := l.Pairwise fun a b => ltI a.1 b.1 = true
theorem ltI_trans {a b c : ID} (h : ltI a b = true) (k : ltI b c = true) : ltI a c = true := by
  simp [ltI] at *; omega
theorem ltI_asymm {a b : ID} (h : ltI a b = true) : ltI b a = false := by
  simp [ltI] at *; omega
theorem ltI_total {a b : ID} (h : ltI a b = false) (k : a ≠ b) : ltI b a = true := by
  obtain ⟨a1, a2⟩ := a; obtain ⟨b1, b2⟩ := b
  simp [ltI] at *; omega
theorem cntV_le (l : List Vert) (x : ID) : cntV l x ≤ l.length := List.countP_le_length
theorem cntV_none {l : List Vert} {x : ID} (h : ∀ v ∈ l, ltI v.1 x = false) : cntV l x = 0 := by
  unfold cntV; rw [List.countP_eq_zero]; intro v hv; simp [h v hv]
theorem cntV_spec {x : ID} : ∀ {l : List Vert}, SortV l → ∀ (k : Nat) (v : Vert), l[k]? = some v → (ltI v.1 x = true ↔ k < cntV l x)
  | [], _, k, v, h => by simp at h
  | w :: r, hs, k, v, h => by
    have hw : ∀ {u : Vert}, u ∈ r → ltI w.1 u.1 = true := fun {u} hu => List.rel_of_pairwise_cons hs hu
    have hr : SortV r := hs.of_cons
    by_cases hlt : ltI w.1 x = true
    · have e : cntV (w :: r) x = cntV r x + 1 := by unfold cntV; rw [List.countP_cons_of_pos (by simpa using hlt)]
      cases k with
      | zero => simp at h; subst h; simp [hlt, e]
      | succ k => have := cntV_spec (x := x) hr k v (by simpa using h); rw [this, e]; omega
    · have hn : ∀ u ∈ w :: r, ltI u.1 x = false := fun u hu => by
        rcases List.mem_cons.1 hu with rfl | hu
        · simpa using hlt
        · rw [Bool.eq_false_iff]; intro h2; exact hlt (ltI_trans (hw hu) h2)
      rw [cntV_none hn, hn v (List.mem_of_getElem? h)]
      simp
theorem lx127125 (hG : ∀ f g, G f g = none) (l : List Vert) (x : ID) (hs : SortV l) (hl : l.length ≤ 50000000) : ∀ (n i j : Nat), j - i ≤ n → i ≤ cntV l x → cntV l x ≤ j → j ≤ l.length →
    LX G 127125 sg127125 Tryz.f125 sh127125_0 (seg Tryz.prog 125 0) ((l, (((l.length : Nat) : Int), ((i : Int), ((j : Int), ())))), (((x, ()), ()), ())) = some (((((cntV l x : Nat) : Int), (decide ((l[cntV l x]?).map (·.1) = some x), ())) : Int × (Bool × Unit)), ()) := by
  have hcl := cntV_le l x
  have fin : ∀ (i j : Nat), ¬ (i < j) → i ≤ cntV l x → cntV l x ≤ j → LX G 127125 sg127125 Tryz.f125 sh127125_0 (seg Tryz.prog 125 0) ((l, (((l.length : Nat) : Int), ((i : Int), ((j : Int), ())))), (((x, ()), ()), ())) = some (((((cntV l x : Nat) : Int), (decide ((l[cntV l x]?).map (·.1) = some x), ())) : Int × (Bool × Unit)), ()) := fun i j hij h1 h2 => by
    have hi : i = cntV l x := by omega
    subst hi
    refine lx_of (j := 0) (by kernel_rfl) ((nl127125_0 _ _ _).trans ?_)
    refine cond_F (decide_eq_false (show ¬ (((cntV l x : Nat) : Int) < (j : Int)) by omega)) ?_
    by_cases hc : cntV l x < l.length
    · have hx : l[cntV l x]? = some l[cntV l x] := List.getElem?_eq_getElem hc
      refine cond_T (lt_up hc) ?_
      refine bind_of (getI_of hx) ?_
      refine bind_of (fx126 hG l[cntV l x] x) ?_
      refine congrArg (fun b : Bool => some ((((cntV l x : Nat) : Int), (b, ())), ())) ?_
      rw [hx]
      unfold ordI
      by_cases he : l[cntV l x].1 = x
      · simp [he]
      · simp [he]; split <;> simp
    · refine cond_F (decide_eq_false (show ¬ (((cntV l x : Nat) : Int) < ((l.length : Nat) : Int)) by omega)) ?_
      refine congrArg (fun b : Bool => some ((((cntV l x : Nat) : Int), (b, ())), ())) ?_
      rw [List.getElem?_eq_none (by omega)]; simp
  intro n
  induction n with
  | zero => intro i j hij h1 h2 h3; exact fin i j (by omega) h1 h2
  | succ n ih =>
    intro i j hij h1 h2 h3
    by_cases hlt : i < j
    case neg => exact fin i j hlt h1 h2
    refine lx_of (j := 0) (by kernel_rfl) ((nl127125_0 _ _ _).trans ?_)
    refine cond_T (decide_eq_true (show ((i : Int) < (j : Int)) by omega)) ?_
    refine cond_F rfl ?_
    have hm := mid_eq (i := i) (j := j) (by omega) (by omega)
    have hh : (i + j) / 2 < l.length := by omega
    have hx : l[(i + j) / 2]? = some l[(i + j) / 2] := List.getElem?_eq_getElem hh
    have hsp := cntV_spec (x := x) hs ((i + j) / 2) _ hx
    refine bind_of (show getI l (IntKind.wrap .i64 (shrI .u64 (IntKind.wrap .u64 (IntKind.wrap .i64 ((i : Int) + (j : Int)))) (1 : Int))) = some l[(i + j) / 2] by rw [hm]; exact getI_of hx) ?_
    refine bind_of (fx126 hG l[(i + j) / 2] x) ?_
    by_cases ho : ltI l[(i + j) / 2].1 x = true
    · refine cond_T (decide_eq_true ((ordI_lt _ _).2 ho)) ?_
      have hc := hsp.1 ho
      have hw : IntKind.wrap .i64 (IntKind.wrap .i64 (shrI .u64 (IntKind.wrap .u64 (IntKind.wrap .i64 ((i : Int) + (j : Int)))) (1 : Int)) + 1) = (((i + j) / 2 + 1 : Nat) : Int) := by
        rw [hm]; exact wrap_up hh (by omega)
      have := ih ((i + j) / 2 + 1) j (by omega) (by omega) h2 h3
      rw [← hw] at this
      exact this
    · refine cond_F (decide_eq_false (fun h => ho ((ordI_lt _ _).1 h))) ?_
      have hc : ¬ (i + j) / 2 < cntV l x := fun h => ho (hsp.2 h)
      have := ih i ((i + j) / 2) (by omega) h1 (by omega) (by omega)
      rw [← hm] at this
      exact this
theorem fx127125 (hG : ∀ f g, G f g = none) (l : List Vert) (x : ID) (hs : SortV l) (hl : l.length ≤ 50000000) :
    FX G 127125 sg127125 ((l, x, ()), ()) = some (((((cntV l x : Nat) : Int), (decide ((l[cntV l x]?).map (·.1) = some x), ())) : Int × (Bool × Unit)), ()) := by
  refine fx_of (fn := Tryz.f125) (hG _ _) (by kernel_rfl) (by kernel_rfl) ((nf127125 _ _ _).trans ?_)
  exact lx127125 hG l x hs hl l.length 0 l.length (by omega) (by omega) (cntV_le l x) (Nat.le_refl _)
theorem fx107 (hG : ∀ f g, G f g = none) (w : WorkT) (x : ID) (hs : SortV w.1) (hl : w.1.length ≤ 50000000) :
    FX G 107 sg107 ((x, ()), (w, ())) = some (((((cntV w.1 x : Nat) : Int), (decide ((w.1[cntV w.1 x]?).map (·.1) = some x), ())) : Int × (Bool × Unit)), (w, ())) := by
  refine fx_of (fn := Tryz.f107) (hG _ _) (by kernel_rfl) (by kernel_rfl) ((nf107 _ _ _).trans ?_)
  exact bind_of (fx127125 hG w.1 x hs hl) rfl

/-! Finding, adding and dropping by place. -/
theorem findV_cnt {x : ID} : ∀ {l : List Vert}, SortV l → findV l x = (l[cntV l x]?).filter fun v => decide (v.1 = x)
  | [], _ => rfl
  | w :: r, hs => by
    have hw : ∀ {u : Vert}, u ∈ r → ltI w.1 u.1 = true := fun {u} hu => List.rel_of_pairwise_cons hs hu
    have hr : SortV r := hs.of_cons
    by_cases hlt : ltI w.1 x = true
    · have e : cntV (w :: r) x = cntV r x + 1 := by unfold cntV; rw [List.countP_cons_of_pos (by simpa using hlt)]
      have hne : ¬ w.1 = x := fun e => by rw [e, ltI_irrefl] at hlt; cases hlt
      rw [e]
      simp only [findV, List.find?_cons, hne, decide_false, List.getElem?_cons_succ]
      exact findV_cnt hr
    · have hn : ∀ u ∈ w :: r, ltI u.1 x = false := fun u hu => by
        rcases List.mem_cons.1 hu with rfl | hu
        · simpa using hlt
        · rw [Bool.eq_false_iff]; intro h2; exact hlt (ltI_trans (hw hu) h2)
      rw [cntV_none hn]
      by_cases he : w.1 = x
      · simp [findV, List.find?_cons, he, Option.filter]
      · have hgt : ltI x w.1 = true := ltI_total (by simpa using hlt) he
        have : findV r x = none := by
          unfold findV; rw [List.find?_eq_none]; intro u hu h2
          have h3 : u.1 = x := by simpa using h2
          have h4 := hw hu
          rw [h3] at h4
          have := ltI_asymm h4
          rw [hgt] at this; cases this
        rw [show findV (w :: r) x = findV r x by simp only [findV, List.find?_cons, he, decide_false], this]
        simp [he, Option.filter]
theorem there_iff {l : List Vert} {x : ID} (hs : SortV l) : decide ((l[cntV l x]?).map (·.1) = some x) = (findV l x).isSome := by
  rw [findV_cnt hs]
  cases h : l[cntV l x]? with
  | none => simp
  | some v => by_cases he : v.1 = x <;> simp [he, Option.filter]
theorem addV_cnt (v : Vert) : ∀ {l : List Vert}, SortV l → findV l v.1 = none → addV v l = l.take (cntV l v.1) ++ (v :: l.drop (cntV l v.1))
  | [], _, _ => rfl
  | w :: r, hs, hf => by
    have hw : ∀ {u : Vert}, u ∈ r → ltI w.1 u.1 = true := fun {u} hu => List.rel_of_pairwise_cons hs hu
    have hr : SortV r := hs.of_cons
    have hne : ¬ w.1 = v.1 := fun e => by simp [findV, e] at hf
    have hfr : findV r v.1 = none := by simpa [findV, List.find?_cons, hne] using hf
    by_cases hlt : ltI w.1 v.1 = true
    · have e : cntV (w :: r) v.1 = cntV r v.1 + 1 := by unfold cntV; rw [List.countP_cons_of_pos (by simpa using hlt)]
      have hge : ltI v.1 w.1 = false := ltI_asymm hlt
      rw [e, addV, if_neg (by simp [hge]), addV_cnt v hr hfr]
      rfl
    · have hn : ∀ u ∈ w :: r, ltI u.1 v.1 = false := fun u hu => by
        rcases List.mem_cons.1 hu with rfl | hu
        · simpa using hlt
        · rw [Bool.eq_false_iff]; intro h2; exact hlt (ltI_trans (hw hu) h2)
      have hgt : ltI v.1 w.1 = true := ltI_total (by simpa using hlt) hne
      rw [cntV_none hn, addV, if_pos hgt]; rfl
theorem dropV_cnt {x : ID} : ∀ {l : List Vert}, SortV l → (findV l x).isSome = true → dropV l x = l.take (cntV l x) ++ l.drop (cntV l x + 1)
  | [], _, hf => by simp [findV] at hf
  | w :: r, hs, hf => by
    have hw : ∀ {u : Vert}, u ∈ r → ltI w.1 u.1 = true := fun {u} hu => List.rel_of_pairwise_cons hs hu
    have hr : SortV r := hs.of_cons
    by_cases he : w.1 = x
    · have hn : ∀ u ∈ w :: r, ltI u.1 x = false := fun u hu => by
        rcases List.mem_cons.1 hu with rfl | hu
        · rw [he, ltI_irrefl]
        · rw [← he]; exact ltI_asymm (hw hu)
      have hall : dropV r x = r := by
        unfold dropV; rw [List.filter_eq_self]; intro u hu
        have h4 := hw hu
        simp; intro e2; rw [he, e2, ltI_irrefl] at h4; cases h4
      rw [cntV_none hn]
      unfold dropV
      rw [List.filter_cons_of_neg (by simp [he])]
      exact hall
    · have hfr : (findV r x).isSome = true := by simpa [findV, List.find?_cons, he] using hf
      have hlt : ltI w.1 x = true := by
        obtain ⟨u, hu⟩ := Option.isSome_iff_exists.1 hfr
        have h1 := List.mem_of_find?_eq_some hu
        have h2 : u.1 = x := by simpa using List.find?_some hu
        rw [← h2]; exact hw h1
      have e : cntV (w :: r) x = cntV r x + 1 := by unfold cntV; rw [List.countP_cons_of_pos (by simpa using hlt)]
      rw [e]
      have := dropV_cnt hr hfr
      simp [dropV, List.filter_cons, he] at this ⊢
      exact this
theorem sort_addV (v : Vert) : ∀ {l : List Vert}, SortV l → findV l v.1 = none → SortV (addV v l)
  | [], _, _ => List.pairwise_singleton _ _
  | w :: r, hs, hf => by
    have hw : ∀ {u : Vert}, u ∈ r → ltI w.1 u.1 = true := fun {u} hu => List.rel_of_pairwise_cons hs hu
    have hr : SortV r := hs.of_cons
    have hne : ¬ w.1 = v.1 := fun e => by simp [findV, e] at hf
    have hfr : findV r v.1 = none := by simpa [findV, List.find?_cons, hne] using hf
    unfold addV
    split
    · rename_i h
      refine List.Pairwise.cons (fun u hu => ?_) hs
      rcases List.mem_cons.1 hu with rfl | hu
      · exact h
      · exact ltI_trans h (hw hu)
    · rename_i h
      have hlt : ltI w.1 v.1 = true := ltI_total (by simpa using h) (fun e => hne e.symm)
      refine List.Pairwise.cons (fun u hu => ?_) (sort_addV v hr hfr)
      rcases mem_addV.1 hu with rfl | hu
      · exact hlt
      · exact hw hu
theorem sort_dropV {l : List Vert} {x : ID} (hs : SortV l) : SortV (dropV l x) := hs.filter _
end Go.Vs

set_option linter.unusedVariables false
set_option linter.unusedSimpArgs false
namespace Go.Vs
open Go.Proofs
variable {G : (f : FuncId) → (g : Sig) → Option (g.A → Option g.B)}

theorem fx79 (hG : G 79 sg79 = none) (l : List Vert) (hl : l.length ≤ 50000000) : FX G 79 sg79 ((l, ()), ()) = some ((l, ()), ()) := by
  refine fx_of (fn := Tryz.f79) hG (by kernel_rfl) (by kernel_rfl) ((nf79 _ _ _).trans ?_)
  cases l with
  | nil => exact cond_T rfl (anyN_of (by omega) fun j hj => by cases j <;> rfl)
  | cons x r => exact cond_F rfl (cond_T (fits (by simp at hl ⊢; omega)) rfl)
theorem fx80 (hG : G 80 sg80 = none) (l : List EdgeT) (hl : l.length ≤ 50000000) : FX G 80 sg80 ((l, ()), ()) = some ((l, ()), ()) := by
  refine fx_of (fn := Tryz.f80) hG (by kernel_rfl) (by kernel_rfl) ((nf80 _ _ _).trans ?_)
  cases l with
  | nil => exact cond_T rfl (anyN_of (by omega) fun j hj => by cases j <;> rfl)
  | cons x r => exact cond_F rfl (cond_T (fits (by simp at hl ⊢; omega)) rfl)
theorem fx81 (hG : G 81 sg81 = none) (l : List Dart) (hl : l.length ≤ 50000000) : FX G 81 sg81 ((l, ()), ()) = some ((l, ()), ()) := by
  refine fx_of (fn := Tryz.f81) hG (by kernel_rfl) (by kernel_rfl) ((nf81 _ _ _).trans ?_)
  cases l with
  | nil => exact cond_T rfl (anyN_of (by omega) fun j hj => by cases j <;> rfl)
  | cons x r => exact cond_F rfl (cond_T (fits (by simp at hl ⊢; omega)) rfl)
theorem fx61 (hG : G 61 sg61 = none) (l : List GoneT) (hl : l.length ≤ 50000000) : FX G 61 sg61 ((l, ()), ()) = some ((l, ()), ()) := by
  refine fx_of (fn := Tryz.f61) hG (by kernel_rfl) (by kernel_rfl) ((nf61 _ _ _).trans ?_)
  cases l with
  | nil => exact cond_T rfl (anyN_of (by omega) fun j hj => by cases j <;> rfl)
  | cons x r => exact cond_F rfl (cond_T (fits (by simp at hl ⊢; omega)) rfl)
theorem set_self {α : Type} {l : List α} {i : Nat} {x : α} (h : l[i]? = some x) : l.set i x = l := by
  obtain ⟨hi, he⟩ := List.getElem?_eq_some_iff.1 h
  subst he; simp
theorem fx60 (hG : ∀ f g, G f g = none) (d : Diag) (hs : Sm d) : FX G 60 sg60 ((d, ()), ()) = some (((d.1, (d.2, ())), ()), ()) := by
  have hv := hs.v; have he := hs.e
  refine fx_of (fn := Tryz.f60) (hG _ _) (by kernel_rfl) (by kernel_rfl) ((nf60 _ _ _).trans ?_)
  refine bind_of (fx79 (hG _ _) d.1 (by omega)) ?_
  refine bind_of (fx80 (hG _ _) d.2 (by omega)) ?_
  have loop : ∀ (n i : Nat) (out : List Vert), i + n = d.1.length → out = d.1 → LX G 60 sg60 Tryz.f60 sh60_0 (seg Tryz.prog 60 0) ((((d.1.length : Nat) : Int), ((i : Int), ())), (((([] : List Vert), (([] : List EdgeT), ())), ((out, (d.2, ())), ())), ())) = some (((d.1, (d.2, ())), ()), ()) := by
    intro n
    induction n with
    | zero =>
      intro i out hi ho
      subst ho
      refine lx_of (j := 0) (by kernel_rfl) ((nl60_0 _ _ _).trans ?_)
      exact cond_F (decide_eq_false (show ¬ ((i : Int) < ((d.1.length : Nat) : Int)) by omega)) rfl
    | succ n ih =>
      intro i out hi ho
      have ho' := ho
      subst ho
      refine lx_of (j := 0) (by kernel_rfl) ((nl60_0 _ _ _).trans ?_)
      have hlt : i < d.1.length := by omega
      have hx : d.1[i]? = some d.1[i] := List.getElem?_eq_getElem hlt
      refine cond_T (lt_up hlt) ?_
      refine cond_T (both_T (ge_up i) (lt_up hlt)) ?_
      refine bind_of hx ?_
      refine bind_of (fx81 (hG _ _) d.1[i].2.1 (hs.r _ (List.getElem_mem hlt))) ?_
      refine cond_T (both_T (ge_up i) (lt_up hlt)) ?_
      refine bind_of hx ?_
      rw [wrap_up hlt (show d.1.length ≤ 1073741824 by omega)]
      exact ih (i + 1) (d.1.set i d.1[i]) (by omega) (set_self hx)
  exact loop d.1.length 0 d.1 (by omega) rfl

/-! ### Vertices brought in and taken away -/
def newVP (w : WorkT) (v : Vert) : Int × WorkT :=
  if (findV w.1 v.1).isSome = true then (12, w) else if 24 ≤ w.1.length then (3, w) else (0, (addV v w.1, w.2))
def remVP (w : WorkT) (x : ID) : Int × WorkT := match findV w.1 x with
  | none => (13, w)
  | some v => if 0 < v.2.1.length then (14, w) else (0, (dropV w.1 x, w.2))
theorem fx90 (hG : ∀ f g, G f g = none) (w : WorkT) (v : Vert) (hs : SortV w.1) (hl : w.1.length ≤ 50000000) : FX G 90 sg90 ((v, ()), (w, ())) = some (((newVP w v).1, ()), ((newVP w v).2, ())) := by
  refine fx_of (fn := Tryz.f90) (hG _ _) (by kernel_rfl) (by kernel_rfl) ((nf90 _ _ _).trans ?_)
  refine bind_of (fx107 hG w v.1 hs hl) ?_
  unfold newVP
  cases hf : (findV w.1 v.1).isSome
  · rw [if_neg (by simp)]
    refine cond_F ((there_iff hs).trans hf) ?_
    by_cases h2 : 24 ≤ w.1.length
    · rw [if_pos h2]
      exact cond_T (decide_eq_true (show ((w.1.length : Nat) : Int) ≥ 24 by omega)) rfl
    · rw [if_neg h2]
      refine cond_F (decide_eq_false (show ¬ ((w.1.length : Nat) : Int) ≥ 24 by omega)) ?_
      have hc := cntV_le w.1 v.1
      have hok : insOk w.1 ((cntV w.1 v.1 : Nat) : Int) [v] = true := by
        unfold insOk
        rw [decide_eq_true (show (0 : Int) ≤ ((cntV w.1 v.1 : Nat) : Int) by omega), decide_eq_true (show ((cntV w.1 v.1 : Nat) : Int) ≤ ((w.1.length : Nat) : Int) by omega)]
        rw [fits (by simp; omega)]; rfl
      refine cond_T hok ?_
      have e : insRow w.1 ((cntV w.1 v.1 : Nat) : Int) [v] = addV v w.1 := by
        rw [addV_cnt v hs (by simpa using hf)]
        unfold insRow; simp
      exact congrArg (fun l : List Vert => some (((0 : Int), ()), ((l, w.2), ()))) e
  · rw [if_pos rfl]
    exact cond_T ((there_iff hs).trans hf) rfl
theorem fx91 (hG : ∀ f g, G f g = none) (w : WorkT) (o : OpT) (hs : SortV w.1) (hl : w.1.length ≤ 50000000) : FX G 91 sg91 ((o, ()), (w, ())) = some (((remVP w (oId o)).1, ()), ((remVP w (oId o)).2, ())) := by
  refine fx_of (fn := Tryz.f91) (hG _ _) (by kernel_rfl) (by kernel_rfl) ((nf91 _ _ _).trans ?_)
  refine bind_of (fx107 hG w (oId o) hs hl) ?_
  unfold remVP
  have hth := there_iff (x := oId o) hs
  have hcnt := findV_cnt (x := oId o) hs
  cases hf : findV w.1 (oId o) with
  | none =>
    rw [hf] at hth
    refine cond_T (show (!(decide ((w.1[cntV w.1 (oId o)]?).map (·.1) = some (oId o)))) = true by rw [hth]; rfl) rfl
  | some v =>
    rw [hf] at hth hcnt
    refine cond_F (show (!(decide ((w.1[cntV w.1 (oId o)]?).map (·.1) = some (oId o)))) = false by rw [hth]; rfl) ?_
    have hx : w.1[cntV w.1 (oId o)]? = some v := by
      cases hg : w.1[cntV w.1 (oId o)]? with
      | none => rw [hg] at hcnt; simp [Option.filter] at hcnt
      | some u =>
        rw [hg] at hcnt
        simp only [Option.filter] at hcnt
        split at hcnt
        · exact hcnt.symm
        · cases hcnt
    have hlt := (List.getElem?_eq_some_iff.1 hx).1
    refine cond_T (both_T (ge_up _) (lt_up hlt)) ?_
    refine bind_of hx ?_
    show _ = some ((((if 0 < v.2.1.length then (14, w) else (0, (dropV w.1 (oId o), w.2)) : Int × WorkT).1, ()), ((if 0 < v.2.1.length then (14, w) else (0, (dropV w.1 (oId o), w.2)) : Int × WorkT).2, ())) : (Int × Unit) × (WorkT × Unit))
    by_cases h2 : 0 < v.2.1.length
    · rw [if_pos h2]
      exact cond_T (decide_eq_true (show ((v.2.1.length : Nat) : Int) > 0 by omega)) rfl
    · rw [if_neg h2]
      refine cond_F (decide_eq_false (show ¬ ((v.2.1.length : Nat) : Int) > 0 by omega)) ?_
      have hw : IntKind.wrap .i64 (((cntV w.1 (oId o) : Nat) : Int) + 1) = ((cntV w.1 (oId o) + 1 : Nat) : Int) := wrap_up hlt (by omega)
      have hok : delOk w.1 ((cntV w.1 (oId o) : Nat) : Int) (IntKind.wrap .i64 (((cntV w.1 (oId o) : Nat) : Int) + 1)) = true := by
        rw [hw]
        unfold delOk
        rw [decide_eq_true (show (0 : Int) ≤ ((cntV w.1 (oId o) : Nat) : Int) by omega), decide_eq_true (show ((cntV w.1 (oId o) : Nat) : Int) < ((cntV w.1 (oId o) + 1 : Nat) : Int) by omega), decide_eq_true (show ((cntV w.1 (oId o) + 1 : Nat) : Int) ≤ ((w.1.length : Nat) : Int) by omega), fits (by omega)]; rfl
      refine cond_T hok ?_
      have e : delRow w.1 ((cntV w.1 (oId o) : Nat) : Int) (IntKind.wrap .i64 (((cntV w.1 (oId o) : Nat) : Int) + 1)) = dropV w.1 (oId o) := by
        rw [hw, dropV_cnt hs (by rw [hf]; rfl)]
        unfold delRow; simp only [Int.toNat_natCast]
      exact congrArg (fun l : List Vert => some (((0 : Int), ()), ((l, w.2), ()))) e

/-! ### One operation -/
def zW : WorkT := ([], ([], ([], ())))
def workOf (s : StateT) : WorkT := (s.1.1, (s.1.2, (s.2, ())))
def stateOf (w : WorkT) : StateT := ((w.1, w.2.1), w.2.2.1)
def doneP (e : Int) (w : WorkT) : StateT × (Int × Unit) := if e ≠ 0 then (zS, (e, ())) else (stateOf w, (0, ()))
theorem fx44 (hG : ∀ f g, G f g = none) (s : StateT) (o : OpT) (hs : Sm s.1) (hg : s.2.length ≤ 50000000) {e : Int} {w : WorkT} (h : FX G 66 sg66 ((o, ()), (workOf s, ())) = some ((e, ()), (w, ()))) :
    FX G 44 sg44 ((s, [o], ()), ()) = some (doneP e w, ()) := by
  refine fx_of (fn := Tryz.f44) (hG _ _) (by kernel_rfl) (by kernel_rfl) ((nf44 _ _ _).trans ?_)
  refine bind_of (fx60 hG s.1 hs) ?_
  refine bind_of (fx61 (hG _ _) s.2 hg) ?_
  refine lx_of (j := 0) (by kernel_rfl) ((nl44_0 _ _ _).trans ?_)
  refine cond_T rfl (bind_of (a := o) rfl ?_)
  refine bind_of h ?_
  unfold doneP
  by_cases he : e = 0
  · rw [if_neg (by simp [he])]
    refine cond_F (show (e != 0) = false by simp [he]) ?_
    refine lx_of (j := 0) (by kernel_rfl) ((nl44_0 _ _ _).trans ?_)
    exact cond_F rfl rfl
  · rw [if_pos he]
    exact cond_T (show (e != 0) = true by simp [he]) rfl
/-- An operation of a kind and a name alone. -/
def opK (k : Int) (x : ID) : OpT := (k, (x, (zI, (zI, (zC, (zC, (false, (e0, 0))))))))
def badId (x : ID) : Int := if mayI x = true then 0 else 1
theorem fx65_1 (hG : ∀ f g, G f g = none) (x : ID) : FX G 65 sg65 ((opK 1 x, ()), ()) = some ((opK 1 x, (badId x, ())), ()) := by
  refine fx_of (fn := Tryz.f65) (hG _ _) (by kernel_rfl) (by kernel_rfl) ((nf65 _ _ _).trans ?_)
  refine bind_of (fx86 (hG _ _) x) ?_
  refine cond_T rfl (cond_T rfl ?_)
  unfold badId
  cases mayI x <;> rfl
theorem fx65_2 (hG : ∀ f g, G f g = none) (x : ID) : FX G 65 sg65 ((opK 2 x, ()), ()) = some ((opK 2 x, (badId x, ())), ()) := by
  refine fx_of (fn := Tryz.f65) (hG _ _) (by kernel_rfl) (by kernel_rfl) ((nf65 _ _ _).trans ?_)
  refine bind_of (fx86 (hG _ _) x) ?_
  refine cond_F rfl (cond_T rfl (cond_T rfl ?_))
  unfold badId
  cases mayI x <;> rfl
theorem fx43_of (hG : ∀ f g, G f g = none) (o : OpT) {b : Int} (h : FX G 65 sg65 ((o, ()), ()) = some ((o, (b, ())), ())) : FX G 43 sg43 ((o, ()), ()) = some ((b, ()), ()) := by
  refine fx_of (fn := Tryz.f43) (hG _ _) (by kernel_rfl) (by kernel_rfl) ((nf43 _ _ _).trans ?_)
  refine bind_of h ?_
  exact cond_not_of (b := true) ((eqOp_iff o o).2 rfl) rfl
theorem fx14_of (hG : ∀ f g, G f g = none) (s : StateT) (o : OpT) {b : Int} (h : FX G 43 sg43 ((o, ()), ()) = some ((b, ()), ())) (hs : Sm s.1) (hg : s.2.length ≤ 50000000) {e : Int} {w : WorkT}
    (h2 : b = 0 → FX G 66 sg66 ((o, ()), (workOf s, ())) = some ((e, ()), (w, ()))) : FX G 14 sg14 ((s, o, ()), ()) = some ((if b ≠ 0 then (zS, (b, ())) else doneP e w), ()) := by
  refine fx_of (fn := Tryz.f14) (hG _ _) (by kernel_rfl) (by kernel_rfl) ((nf14 _ _ _).trans ?_)
  refine bind_of h ?_
  by_cases hb : b = 0
  · rw [if_neg (by simp [hb])]
    refine cond_F (show (b != 0) = false by simp [hb]) ?_
    exact bind_of (fx44 hG s o hs hg (h2 hb)) rfl
  · rw [if_pos hb]
    exact cond_T (show (b != 0) = true by simp [hb]) rfl
theorem fx14_2 (hG : ∀ f g, G f g = none) (s : StateT) (x : ID) (hs : Sm s.1) (hg : s.2.length ≤ 50000000) (hv : SortV s.1.1) :
    FX G 14 sg14 ((s, opK 2 x, ()), ()) = some ((if badId x ≠ 0 then (zS, (badId x, ())) else doneP (remVP (workOf s) x).1 (remVP (workOf s) x).2), ()) := by
  refine fx14_of hG s (opK 2 x) (fx43_of hG _ (fx65_2 hG x)) hs hg (fun _ => ?_)
  refine fx_of (fn := Tryz.f66) (hG _ _) (by kernel_rfl) (by kernel_rfl) ((nf66 _ _ _).trans ?_)
  refine cond_F rfl (cond_T rfl ?_)
  exact bind_of (fx91 hG (workOf s) (opK 2 x) hv hs.v) rfl

/-! ### The document's example -/
theorem sm_zero : Sm zS.1 := ⟨by simp [zS], by simp [zS], by simp [zS]⟩
theorem fx58_1 (hG : ∀ f g, G f g = none) (o : OpT) (h : FX G 43 sg43 ((o, ()), ()) = some (((0 : Int), ()), ())) : FX G 58 sg58 (([o], ()), ()) = some (((0 : Int), ()), ()) := by
  refine fx_of (fn := Tryz.f58) (hG _ _) (by kernel_rfl) (by kernel_rfl) ((nf58 _ _ _).trans ?_)
  refine cond_F rfl (cond_F rfl ?_)
  refine lx_of (j := 0) (by kernel_rfl) ((nl58_0 _ _ _).trans ?_)
  refine cond_T rfl (bind_of (a := o) rfl ?_)
  refine bind_of h ?_
  refine cond_F rfl ?_
  refine lx_of (j := 0) (by kernel_rfl) ((nl58_0 _ _ _).trans ?_)
  exact cond_F rfl rfl
def shS : StateT := (([((1, 1), ([], (e0, 0)))], []), [])
theorem fx12 (hG : ∀ f g, G f g = none) : FX G 12 sg12 ((), ()) = some ((true, ()), ()) := by
  refine fx_of (fn := Tryz.f12) (hG _ _) (by kernel_rfl) (by kernel_rfl) ((nf12 _ _ _).trans ?_)
  have h33 : FX G 33 sg33 ((), ()) = some ((zS, ()), ()) := fx_of (fn := Tryz.f33) (hG _ _) (by kernel_rfl) (by kernel_rfl) (nf33 _ _ _)
  have h42 : FX G 42 sg42 (((1 : Int), ()), ()) = some (([opK 1 (1, 1)], ()), ()) := fx_of (fn := Tryz.f42) (hG _ _) (by kernel_rfl) (by kernel_rfl) (nf42 _ _ _)
  refine bind_of h33 ?_
  refine bind_of h42 ?_
  have h43 : FX G 43 sg43 ((opK 1 (1, 1), ()), ()) = some (((0 : Int), ()), ()) := fx43_of hG _ (fx65_1 hG (1, 1))
  have h66 : FX G 66 sg66 ((opK 1 (1, 1), ()), (workOf zS, ())) = some (((0 : Int), ()), (workOf shS, ())) := by
    refine fx_of (fn := Tryz.f66) (hG _ _) (by kernel_rfl) (by kernel_rfl) ((nf66 _ _ _).trans ?_)
    refine cond_T rfl ?_
    exact bind_of (fx90 hG (workOf zS) ((1, 1), ([], (e0, 0))) List.Pairwise.nil (by simp [workOf, zS])) rfl
  have h30 : FX G 30 sg30 ((zS, [opK 1 (1, 1)], ()), ()) = some ((shS, ((0 : Int), ())), ()) := by
    refine fx_of (fn := Tryz.f30) (hG _ _) (by kernel_rfl) (by kernel_rfl) ((nf30 _ _ _).trans ?_)
    refine bind_of (fx58_1 hG (opK 1 (1, 1)) h43) ?_
    refine cond_F rfl ?_
    exact bind_of (fx44 hG zS (opK 1 (1, 1)) sm_zero (by simp [zS]) h66) rfl
  refine bind_of h30 ?_
  have hsm : Sm shS.1 := ⟨by simp [shS], by simp [shS], by simp [shS]⟩
  refine bind_of (fx14_2 hG shS (1, 1) hsm (by simp [shS]) (List.pairwise_singleton _ _)) ?_
  rfl
end Go.Vs

set_option linter.unusedVariables false
set_option linter.unusedSimpArgs false
namespace Go.Vs
open Go.Proofs

theorem SortV.map {l : List Vert} (h : SortV l) {f : Vert → Vert} (hf : ∀ v, (f v).1 = v.1) : SortV (l.map f) := by
  unfold SortV at h ⊢
  rw [List.pairwise_map]
  exact h.imp fun {a b} hab => by rw [hf, hf]; exact hab
theorem findV_map {x : ID} {f : Vert → Vert} (hf : ∀ v, (f v).1 = v.1) : ∀ (l : List Vert), findV (l.map f) x = (findV l x).map f
  | [] => rfl
  | w :: r => by
    unfold findV
    rw [List.map_cons, List.find?_cons, List.find?_cons, hf]
    have := findV_map (x := x) hf r
    unfold findV at this
    cases decide (w.1 = x) with
    | true => rfl
    | false => exact this
theorem reR_id (x : ID) (l : List Dart) (w : Vert) : (reR x l w).1 = w.1 := by unfold reR; split <;> rfl
theorem setV_id (o : OpT) (w : Vert) : (setV o w).1 = w.1 := by unfold setV; split <;> (try split) <;> rfl
/-- The vertices rise, and are not too many. -/
structure Iv (d : Diag) : Prop where
  s : SortV d.1
  n : d.1.length ≤ 24
theorem Iv.zero : Iv zS.1 := ⟨List.Pairwise.nil, by simp [zS]⟩
theorem Iv.ringed {d : Diag} (h : Iv d) (x : ID) (l : List Dart) : Iv (ringed d x l) := ⟨h.s.map (reR_id x l), by unfold Vs.ringed; simp; exact h.n⟩
theorem Iv.without {d : Diag} (h : Iv d) (v e : ID) : Iv (without d v e) := ⟨sort_dropV h.s, Nat.le_trans (List.length_filter_le _ _) h.n⟩
theorem Iv.one {s : StateT} (h : Iv s.1) (o : OpT) : Iv (oneR s o).1.1 := by
  unfold oneR
  split; · exact Iv.zero
  split
  · unfold addVR
    split; · exact Iv.zero
    split; · exact Iv.zero
    rename_i h1 h2
    exact ⟨sort_addV _ h.s (by simpa [vertex] using h1), by rw [addV_length]; omega⟩
  split
  · unfold remVR
    split
    · exact Iv.zero
    · split
      · exact Iv.zero
      · exact h.without _ _
  split
  · unfold linkR
    split; · exact Iv.zero
    split; · exact Iv.zero
    split; · exact Iv.zero
    split; · exact Iv.zero
    split; · exact Iv.zero
    have h1 : Iv (s.1.1, addE (oId o, (e0, 0)) s.1.2) := ⟨h.s, h.n⟩
    exact (h1.ringed _ _).ringed _ _
  split
  · unfold cutR
    split; · exact Iv.zero
    exact ((h.ringed _ _).ringed _ _).without _ _
  split
  · unfold splitR
    split; · exact Iv.zero
    split; · exact Iv.zero
    split; · exact Iv.zero
    split; · exact Iv.zero
    split; · exact Iv.zero
    rename_i h1 h2 h3 h4 h5
    have h6 : findV s.1.1 (oNew o) = none := by simpa [vertex] using h2
    have h7 : findV (swapped s.1 (spM o) (otherD (spK o))).1 (oNew o) = none := by
      unfold swapped Vs.ringed
      rw [findV_map (reR_id _ _), h6]; rfl
    refine ⟨sort_addV _ (h.ringed _ _).s h7, ?_⟩
    unfold splitD
    rw [addV_length]
    have : (swapped s.1 (spM o) (otherD (spK o))).1.length = s.1.1.length := by unfold swapped Vs.ringed; simp
    omega
  split
  · unfold smoothR
    have key : ∀ a b : Dart, Iv (smD s o a b) := fun a b => ((h.without _ _).ringed _ _).without _ _
    split
    · exact Iv.zero
    · split
      · unfold smooth2
        split; · exact Iv.zero
        split; · exact key _ _
        split; · exact key _ _
        exact Iv.zero
      · exact Iv.zero
  · unfold setR
    split
    · exact ⟨h.s.map (setV_id o), by simp; exact h.n⟩
    · exact Iv.zero
theorem Iv.go : ∀ (l : List OpT) {s : StateT}, Iv s.1 → Iv (goR l s).1.1
  | [], s, h => h
  | o :: r, s, h => by
    unfold goR
    split
    · exact Iv.zero
    · exact Iv.go r (h.one o)
theorem Iv.try {s : StateT} (h : Iv s.1) (l : List OpT) : Iv (tryR s l).1 := by
  unfold tryR
  split
  · exact h
  · unfold applyR
    split
    · exact Iv.zero
    · exact Iv.go l h
theorem Iv.reach : ∀ (m : Nat) (l : List (List OpT)) {s : StateT}, Iv s.1 → Iv (reachR m l s).1
  | 0, _, s, h => by simpa [reachR] using h
  | m + 1, [], s, h => h
  | m + 1, l :: r, s, h => by rw [reachR]; exact Iv.reach m r (h.try _)
theorem Iv.reached (l : List (List OpT)) : Iv (reachedR l).1 := Iv.reach 30 l Iv.zero

end Go.Vs
