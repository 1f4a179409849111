/- What the document's reference computes, written plainly, the first part. -/
import Derived.Test.YtpldhjjpeldkaaaGreatEngineD
import Derived.Test.YtpldhjjpeldkaaaGreatNormalA
import Derived.Test.YtpldhjjpeldkaaaGreatNormalB
import Derived.Test.YtpldhjjpeldkaaaGreatNormalC

set_option linter.unusedVariables false
set_option linter.unusedSimpArgs false
namespace Go.Vs
open Go.Proofs
variable {G : (f : FuncId) → (g : Sig) → Option (g.A → Option g.B)}

/-! ### Tools -/
theorem bind_of {α β : Type} {o : Option α} {f : α → Option β} {a : α} {r : Option β} (h : o = some a) (k : f a = r) : o.bind f = r := by rw [h]; exact k
theorem getI_of {α : Type} {l : List α} {i : Nat} {x : α} (h : l[i]? = some x) : getI l (i : Int) = some x := by
  have hl := (List.getElem?_eq_some_iff.1 h).1
  simp [getI, h]
theorem wrap_small {n : Int} (h0 : -9223372036854775808 ≤ n) (h1 : n < 9223372036854775808) : IntKind.wrap .i64 n = n := by
  unfold IntKind.wrap
  simp [IntKind.bits, IntKind.signed]
  omega
theorem wrap_up {i n : Nat} (h : i < n) (hn : n ≤ 1073741824) : IntKind.wrap .i64 ((i : Int) + 1) = ((i + 1 : Nat) : Int) := by
  rw [wrap_small (by omega) (by omega)]; rfl
theorem lt_up {i n : Nat} (h : i < n) : decide ((i : Int) < ((n : Nat) : Int)) = true := by simpa using h
theorem lt_end (n : Nat) : decide (((n : Nat) : Int) < ((n : Nat) : Int)) = false := by simp
theorem fits {n m : Nat} (h : n + m ≤ 1073741824) : fitsN n m = true := decide_eq_true h
theorem beqI (a b : ID) : ((a.1 == b.1) && (a.2 == b.2)) = decide (a = b) := by
  obtain ⟨a1, a2⟩ := a; obtain ⟨b1, b2⟩ := b
  rw [Bool.eq_iff_iff]; simp
theorem beqD (a b : Dart) : (((a.1.1 == b.1.1) && (a.1.2 == b.1.2)) && (a.2 == b.2)) = decide (a = b) := by
  obtain ⟨⟨a1, a2⟩, a3⟩ := a; obtain ⟨⟨b1, b2⟩, b3⟩ := b
  rw [Bool.eq_iff_iff]; simp [and_assoc]
theorem beqS (a b : ByteArray) : (a == b) = decide (a = b) := by
  obtain ⟨a⟩ := a; obtain ⟨b⟩ := b
  show (a == b) = _
  rw [Bool.eq_iff_iff]; simp
theorem loop_list {α S R : Type} (l : List α) (L : Int → S → Option R) (g : List α → S → R) (inv : Nat → S → Prop)
    (hend : ∀ s, inv 0 s → L ((l.length : Nat) : Int) s = some (g [] s))
    (hstep : ∀ (i : Nat) (x : α) (r : List α) (s : S), i < l.length → l[i]? = some x → i + r.length + 1 = l.length → inv (r.length + 1) s → (∀ s', inv r.length s' → L ((i + 1 : Nat) : Int) s' = some (g r s')) → L (i : Int) s = some (g (x :: r) s)) :
    ∀ s, inv l.length s → L 0 s = some (g l s) := by
  have key : ∀ (r p : List α), p ++ r = l → ∀ s, inv r.length s → L ((p.length : Nat) : Int) s = some (g r s) := by
    intro r
    induction r with
    | nil => intro p hp s hs; rw [List.append_nil] at hp; subst hp; exact hend s hs
    | cons x r ih =>
      intro p hp s hs
      refine hstep p.length x r s ?_ ?_ ?_ hs (fun s' hs' => ?_)
      · rw [← hp]; simp
      · rw [← hp]; simp
      · rw [← hp]; simp; omega
      · have := ih (p ++ [x]) (by simp [hp]) s' hs'; simpa using this
  intro s hs; exact key l [] rfl s hs

/-! ### Names and darts -/
def zD : Dart := ((0, 0), 0)
def mayI (x : ID) : Bool := decide (1 ≤ x.1 ∧ x.1 ≤ 8 ∧ 1 ≤ x.2 ∧ x.2 ≤ 1048576)
def ltI (a b : ID) : Bool := decide (a.1 < b.1 ∨ (a.1 = b.1 ∧ a.2 < b.2))
def ordI (a b : ID) : Int := if a = b then 0 else if ltI a b then -1 else 1
def ltD (a b : Dart) : Bool := ltI a.1 b.1 || (decide (a.1 = b.1) && decide (a.2 < b.2))
def ordD (a b : Dart) : Int := if a = b then 0 else if ltD a b then -1 else 1
def mayD (d : Dart) : Bool := mayI d.1 && decide (d.2 = 0 ∨ d.2 = 1)

theorem fx19 (hG : G 19 sg19 = none) (x : ID) : FX G 19 sg19 ((x, ()), ()) = some ((mayI x, ()), ()) := by
  refine fx_of (fn := Tryz.f19) hG (by kernel_rfl) (by kernel_rfl) ((nf19 _ _ _).trans ?_)
  obtain ⟨a, b⟩ := x
  show (cond (decide (a ≥ 1)) (cond (decide (a ≤ 8)) (cond (decide (b ≥ 1)) (some ((decide (b ≤ 1048576), ()), ())) (some ((false, ()), ()))) (some ((false, ()), ()))) (some ((false, ()), ())) : Option ((Bool × Unit) × Unit)) = some ((mayI (a, b), ()), ())
  unfold mayI
  simp only [cond_eq_ite]
  by_cases h1 : (1 : Int) ≤ a <;> by_cases h2 : a ≤ 8 <;> by_cases h3 : (1 : Int) ≤ b <;> simp [h1, h2, h3]
theorem fx23 (hG : G 23 sg23 = none) (d : Dart) : FX G 23 sg23 ((d, ()), ()) = some (((d.1, IntKind.wrap .i64 (1 - d.2)), ()), ()) :=
  fx_of hG (by kernel_rfl) (by kernel_rfl) (nf23 _ _ _)
theorem fx69 (hG : G 69 sg69 = none) (a b : ID) : FX G 69 sg69 ((a, b, ()), ()) = some ((ordI a b, ()), ()) := by
  refine fx_of (fn := Tryz.f69) hG (by kernel_rfl) (by kernel_rfl) ((nf69 _ _ _).trans ?_)
  obtain ⟨a1, a2⟩ := a
  obtain ⟨b1, b2⟩ := b
  unfold ordI ltI
  show (cond ((a1 == b1) && (a2 == b2)) (some (((0 : Int), ()), ())) (cond (decide (a1 < b1)) (some (((-1 : Int), ()), ())) (cond (a1 == b1) (cond (decide (a2 < b2)) (some (((-1 : Int), ()), ())) (some (((1 : Int), ()), ()))) (some (((1 : Int), ()), ())))) : Option ((Int × Unit) × Unit)) = some (((if (a1, a2) = (b1, b2) then 0 else if (decide (a1 < b1 ∨ (a1 = b1 ∧ a2 < b2))) = true then -1 else 1 : Int), ()), ())
  by_cases h1 : a1 = b1 <;> by_cases h2 : a2 = b2 <;> by_cases h3 : a1 < b1 <;> by_cases h4 : a2 < b2 <;> first | (exfalso; omega) | (simp only [cond_eq_ite]; simp [h1, h2, h3, h4]; done) | (subst h1; simp only [cond_eq_ite]; simp [h2, h4])
theorem fx62 (hG : ∀ f g, G f g = none) (a b : Dart) : FX G 62 sg62 ((a, b, ()), ()) = some ((ordD a b, ()), ()) := by
  refine fx_of (fn := Tryz.f62) (hG _ _) (by kernel_rfl) (by kernel_rfl) ((nf62 _ _ _).trans ?_)
  refine bind_of (fx69 (hG _ _) a.1 b.1) ?_
  obtain ⟨a1, a2⟩ := a
  obtain ⟨b1, b2⟩ := b
  show (cond (ordI a1 b1 != 0) (some ((ordI a1 b1, ()), ())) (cond (decide (a2 < b2)) (some (((-1 : Int), ()), ())) (cond (decide (a2 > b2)) (some (((1 : Int), ()), ())) (some (((0 : Int), ()), ())))) : Option ((Int × Unit) × Unit)) = some ((ordD (a1, a2) (b1, b2), ()), ())
  unfold ordD ltD ordI
  simp only [cond_eq_ite]
  by_cases h1 : a1 = b1
  · subst h1
    have hl : ltI a1 a1 = false := by simp [ltI]
    by_cases h2 : a2 = b2
    · subst h2; simp
    · by_cases h3 : a2 < b2
      · simp [h2, h3, hl]
      · have : a2 > b2 := by omega
        simp [h2, h3, hl, this]
  · by_cases h2 : ltI a1 b1 = true <;> simp [h1, h2]
theorem fx97 (hG : ∀ f g, G f g = none) (d : Dart) : FX G 97 sg97 ((d, ()), ()) = some ((mayD d, ()), ()) := by
  refine fx_of (fn := Tryz.f97) (hG _ _) (by kernel_rfl) (by kernel_rfl) ((nf97 _ _ _).trans ?_)
  refine bind_of (fx19 (hG _ _) d.1) ?_
  obtain ⟨d1, d2⟩ := d
  show (cond (mayI d1) (cond (d2 == 0) (some ((true, ()), ())) (some (((d2 == 1), ()), ()))) (some ((false, ()), ())) : Option ((Bool × Unit) × Unit)) = some ((mayD (d1, d2), ()), ())
  unfold mayD
  simp only [cond_eq_ite]
  by_cases h1 : mayI d1 = true <;> by_cases h2 : d2 = 0 <;> simp [h1, h2]
  rw [Bool.eq_iff_iff]; simp

/-! ### Rings -/
/-- From the i-th on. -/
def idx (d : Dart) : List Dart → Int → Int
  | [], _ => -1
  | e :: r, i => if e = d then i else idx d r (i + 1)
theorem lx24 (row : List Dart) (d : Dart) (hl : row.length ≤ 1073741824) : ∀ (n i : Nat), i + n = row.length → LX G 24 sg24 Tryz.f24 sh24_0 (seg Tryz.prog 24 0) ((row, ((i : Int), ())), (((d, ()), ()), ())) = some ((idx d (row.drop i) i, ()), ()) := by
  intro n
  induction n with
  | zero =>
    intro i hi
    refine lx_of (j := 0) (by kernel_rfl) ((nl24_0 _ _ _).trans ?_)
    have h1 : ¬ ((i : Int) < (row.length : Int)) := by omega
    have h2 : row.drop i = [] := List.drop_eq_nil_of_le (by omega)
    simp only [h1, h2, decide_false, cond_false, idx]
    rfl
  | succ n ih =>
    intro i hi
    refine lx_of (j := 0) (by kernel_rfl) ((nl24_0 _ _ _).trans ?_)
    have hlt : i < row.length := by omega
    have h1 : ((i : Int) < (row.length : Int)) := by omega
    have h2 : row.drop i = row[i] :: row.drop (i + 1) := List.drop_eq_getElem_cons hlt
    have h3 : getI row (i : Int) = some row[i] := by simp [getI, hlt]
    have h4 : IntKind.wrap .i64 ((i : Int) + 1) = ((i + 1 : Nat) : Int) := by rw [wrap_small (by omega) (by omega)]; rfl
    have h5 := ih (i + 1) (by omega)
    rw [h2, idx]
    simp only [h1, decide_true, cond_true, h3, Option.bind_some, h4, beqD]
    by_cases he : row[i] = d
    · rw [if_pos he]; simp only [he, decide_true]; rfl
    · rw [if_neg he]; simp only [he, decide_false]
      exact h5
theorem fx24 (hG : G 24 sg24 = none) (row : List Dart) (d : Dart) (hl : row.length ≤ 1073741824) : FX G 24 sg24 ((row, d, ()), ()) = some ((idx d row 0, ()), ()) := by
  refine fx_of (fn := Tryz.f24) hG (by kernel_rfl) (by kernel_rfl) ((nf24 _ _ _).trans ?_)
  exact lx24 (G := G) row d hl row.length 0 (by omega)
theorem idx_range (d : Dart) : ∀ (row : List Dart) (i : Int), 0 ≤ i → (idx d row i = -1 ∧ d ∉ row) ∨ (∃ k : Nat, idx d row i = i + k ∧ row[k]? = some d ∧ d ∉ row.take k)
  | [], i, _ => .inl ⟨rfl, by simp⟩
  | e :: r, i, h => by
    unfold idx
    by_cases he : e = d
    · right; exact ⟨0, by simp [he], by simp [he], by simp⟩
    · rw [if_neg he]
      rcases idx_range d r (i + 1) (by omega) with ⟨h1, h2⟩ | ⟨k, h1, h2, h3⟩
      · exact .inl ⟨h1, by simp [h2, Ne.symm he]⟩
      · exact .inr ⟨k + 1, by rw [h1]; omega, by simpa using h2, by simp [h3, Ne.symm he]⟩
theorem idx_neg {d : Dart} {row : List Dart} : idx d row 0 < 0 ↔ d ∉ row := by
  rcases idx_range d row 0 (by omega) with ⟨h1, h2⟩ | ⟨k, h1, h2, _⟩
  · simp [h1, h2]
  · have := List.mem_of_getElem? h2
    simp [this]; omega
theorem idx_some {d : Dart} {row : List Dart} (h : d ∈ row) : ∃ k : Nat, idx d row 0 = k ∧ row[k]? = some d ∧ d ∉ row.take k := by
  rcases idx_range d row 0 (by omega) with ⟨_, h2⟩ | ⟨k, h1, h2, h3⟩
  · exact absurd h h2
  · exact ⟨k, by omega, h2, h3⟩

end Go.Vs

set_option linter.unusedVariables false
set_option linter.unusedSimpArgs false
namespace Go.Vs
open Go.Proofs
variable {G : (f : FuncId) → (g : Sig) → Option (g.A → Option g.B)}

def stepD (row : List Dart) (d : Dart) (by_ : Nat) : Option Dart := if d ∈ row then row[((idx d row 0).toNat + by_) % row.length]? else none
def orZ : Option Dart → Dart × (Bool × Unit)
  | some y => (y, (true, ()))
  | none => (zD, (false, ()))

theorem tmod_nat (a n : Nat) : Int.tmod (a : Int) (n : Int) = ((a % n : Nat) : Int) := by
  rw [Int.tmod_eq_emod_of_nonneg (by omega)]; rfl
theorem len_ne {row : List Dart} {d : Dart} (h : d ∈ row) : ((((row.length : Nat) : Int)) == 0) = false := by
  have := List.length_pos_of_mem h
  simp; intro e; subst e; simp at h
theorem fx26 (hG : ∀ f g, G f g = none) (row : List Dart) (d : Dart) (hl : row.length ≤ 1073741824) : FX G 26 sg26 ((row, d, ()), ()) = some (orZ (stepD row d (row.length - 1)), ()) := by
  refine fx_of (fn := Tryz.f26) (hG _ _) (by kernel_rfl) (by kernel_rfl) ((nf26 _ _ _).trans ?_)
  refine bind_of (fx24 (hG _ _) row d hl) ?_
  by_cases h : d ∈ row
  · obtain ⟨k, h1, h2, h3⟩ := idx_some h
    have hk := (List.getElem?_eq_some_iff.1 h2).1
    have hm : (k + (row.length - 1)) % row.length < row.length := Nat.mod_lt _ (by omega)
    have e1 : IntKind.wrap .i64 (IntKind.wrap .i64 ((k : Int) + ((row.length : Nat) : Int)) - 1) = ((k + (row.length - 1) : Nat) : Int) := by
      rw [wrap_small (n := (k : Int) + ((row.length : Nat) : Int)) (by omega) (by omega), wrap_small (by omega) (by omega)]; omega
    have e2 : ¬ ((k : Int) < 0) := by omega
    have e4 : row[(k + (row.length - 1)) % row.length]? = some row[(k + (row.length - 1)) % row.length] := List.getElem?_eq_getElem hm
    have e3 : stepD row d (row.length - 1) = some row[(k + (row.length - 1)) % row.length] := by
      unfold stepD; rw [if_pos h, h1]; simp
    rw [e3]
    simp only [h1, e2, decide_false, cond_false, len_ne h, e1, tmod_nat, getI_of e4, Option.bind_some]
    rfl
  · have h1 := idx_neg.2 h
    have e3 : stepD row d (row.length - 1) = none := by unfold stepD; rw [if_neg h]
    rw [e3]
    simp only [h1, decide_true, cond_true]
    rfl
theorem fx104 (hG : ∀ f g, G f g = none) (row : List Dart) (d : Dart) (hl : row.length ≤ 1073741824) : FX G 104 sg104 ((row, d, ()), ()) = some (orZ (stepD row d 1), ()) := by
  refine fx_of (fn := Tryz.f104) (hG _ _) (by kernel_rfl) (by kernel_rfl) ((nf104 _ _ _).trans ?_)
  refine bind_of (fx24 (hG _ _) row d hl) ?_
  by_cases h : d ∈ row
  · obtain ⟨k, h1, h2, h3⟩ := idx_some h
    have hk := (List.getElem?_eq_some_iff.1 h2).1
    have hm : (k + 1) % row.length < row.length := Nat.mod_lt _ (by omega)
    have e1 : IntKind.wrap .i64 ((k : Int) + 1) = ((k + 1 : Nat) : Int) := by
      rw [wrap_small (by omega) (by omega)]; omega
    have e2 : ¬ ((k : Int) < 0) := by omega
    have e4 : row[(k + 1) % row.length]? = some row[(k + 1) % row.length] := List.getElem?_eq_getElem hm
    have e3 : stepD row d 1 = some row[(k + 1) % row.length] := by
      unfold stepD; rw [if_pos h, h1]; simp
    rw [e3]
    simp only [h1, e2, decide_false, cond_false, len_ne h, e1, tmod_nat, getI_of e4, Option.bind_some]
    rfl
  · have h1 := idx_neg.2 h
    have e3 : stepD row d 1 = none := by unfold stepD; rw [if_neg h]
    rw [e3]
    simp only [h1, decide_true, cond_true]
    rfl

/-- Where the least is. -/
def mini (row : List Dart) : List Dart → Nat → Nat → Nat
  | [], _, k => k
  | x :: r, i, k => if ordD x (row.getD k zD) < 0 then mini row r (i + 1) i else mini row r (i + 1) k
def rot (row : List Dart) (k : Nat) : List Dart := row.drop k ++ row.take k
def turn (row : List Dart) : List Dart := rot row (mini row row 0 0)
theorem mini_lt (row : List Dart) : ∀ (r : List Dart) (i k : Nat), k < row.length → i + r.length = row.length → mini row r i k < row.length
  | [], _, k, hk, _ => hk
  | x :: r, i, k, hk, hi => by
    unfold mini
    simp at hi
    split
    · exact mini_lt row r (i + 1) i (by omega) (by omega)
    · exact mini_lt row r (i + 1) k hk (by omega)
theorem rot_length (row : List Dart) (k : Nat) : (rot row k).length = row.length := by unfold rot; simp; omega
theorem turn_length (row : List Dart) : (turn row).length = row.length := rot_length _ _
theorem mem_rot {row : List Dart} {k : Nat} {d : Dart} : d ∈ rot row k ↔ d ∈ row := by
  unfold rot
  rw [List.mem_append, or_comm, ← List.mem_append, List.take_append_drop]
theorem mem_turn {row : List Dart} {d : Dart} : d ∈ turn row ↔ d ∈ row := mem_rot
theorem rot_get {row : List Dart} {k i : Nat} (hk : k ≤ row.length) (hi : i < row.length) : (rot row k)[i]? = row[(k + i) % row.length]? := by
  unfold rot
  by_cases h : k + i < row.length
  · rw [List.getElem?_append_left (by simp; omega), List.getElem?_drop, Nat.mod_eq_of_lt h]
  · rw [List.getElem?_append_right (by simp; omega), List.length_drop, List.getElem?_take, if_pos (by omega)]
    congr 1
    have : (k + i) % row.length = k + i - row.length := by rw [Nat.mod_eq_sub_mod (by omega), Nat.mod_eq_of_lt (by omega)]
    omega

theorem lx77_1 (row : List Dart) (k : Nat) (hl : row.length ≤ 100000000) (hk : k ≤ row.length) : ∀ (n i : Nat) (out T : List Dart), i + n = row.length → T = rot row k → out = T.take i →
    LX G 77 sg77 Tryz.f77 sh77_1 (seg Tryz.prog 77 1) ((row, ((k : Int), ((i : Int), ()))), ((), (out, ()))) = some ((T, ()), ()) := by
  intro n
  induction n with
  | zero =>
    intro i out T hi hT ho
    refine lx_of (j := 1) (by kernel_rfl) ((nl77_1 _ _ _).trans ?_)
    have h1 : ¬ ((i : Int) < (row.length : Int)) := by omega
    have h2 : out = T := by rw [ho]; exact List.take_of_length_le (by rw [hT, rot_length]; omega)
    subst h2
    simp only [h1, decide_false]
    rfl
  | succ n ih =>
    intro i out T hi hT ho
    refine lx_of (j := 1) (by kernel_rfl) ((nl77_1 _ _ _).trans ?_)
    have hlt : i < row.length := by omega
    have hm : (k + i) % row.length < row.length := Nat.mod_lt _ (by omega)
    have h3 : row[(k + i) % row.length]? = some row[(k + i) % row.length] := List.getElem?_eq_getElem hm
    have h0 : ((((row.length : Nat) : Int)) == 0) = false := by simp; intro e; subst e; simp at hlt
    have h4 : IntKind.wrap .i64 ((k : Int) + (i : Int)) = ((k + i : Nat) : Int) := by rw [wrap_small (by omega) (by omega)]; rfl
    have hol : out.length ≤ row.length := by rw [ho, hT]; simp; rw [rot_length]; omega
    have h5 : fitsN out.length [row[(k + i) % row.length]].length = true := fits (by simp; omega)
    have h6 : out ++ [row[(k + i) % row.length]] = T.take (i + 1) := by
      rw [ho, List.take_add_one, hT, rot_get hk hlt, h3]; rfl
    have h7 := ih (i + 1) (out ++ [row[(k + i) % row.length]]) T (by omega) hT h6
    simp only [lt_up hlt, h0, h4, tmod_nat, getI_of h3, Option.bind_some, h5, wrap_up hlt (show row.length ≤ 1073741824 by omega)]
    exact h7
theorem lx77_0 (hG : ∀ f g, G f g = none) (row : List Dart) (hl : row.length ≤ 100000000) : ∀ (n i k : Nat), i + n = row.length → (k < row.length ∨ (row = [] ∧ k = 0)) →
    LX G 77 sg77 Tryz.f77 sh77_0 (seg Tryz.prog 77 0) ((row, ((k : Int), ((i : Int), ()))), ((), ())) = some ((rot row (mini row (row.drop i) i k), ()), ()) := by
  intro n
  induction n with
  | zero =>
    intro i k hi hk
    refine lx_of (j := 0) (by kernel_rfl) ((nl77_0 _ _ _).trans ?_)
    have h1 : ¬ ((i : Int) < (row.length : Int)) := by omega
    have h2 : row.drop i = [] := List.drop_eq_nil_of_le (by omega)
    simp only [h1, h2, decide_false, cond_false, mini]
    exact lx77_1 (G := G) row k hl (by rcases hk with h | ⟨_, h⟩ <;> omega) row.length 0 [] (rot row k) (by omega) rfl (by simp)
  | succ n ih =>
    intro i k hi hk
    refine lx_of (j := 0) (by kernel_rfl) ((nl77_0 _ _ _).trans ?_)
    have hlt : i < row.length := by omega
    have hk' : k < row.length := hk.resolve_right (by rintro ⟨rfl, _⟩; simp at hlt)
    have h2 : row.drop i = row[i] :: row.drop (i + 1) := List.drop_eq_getElem_cons hlt
    have h3 : row[i]? = some row[i] := List.getElem?_eq_getElem hlt
    have h4 : row[k]? = some row[k] := List.getElem?_eq_getElem hk'
    have h5 : row.getD k zD = row[k] := by simp [List.getD, h4]
    simp only [lt_up hlt, cond_true, getI_of h3, getI_of h4, Option.bind_some, wrap_up hlt (show row.length ≤ 1073741824 by omega)]
    refine bind_of (fx62 hG row[i] row[k]) ?_
    rw [h2, mini, h5]
    by_cases ho : ordD row[i] row[k] < 0
    · rw [if_pos ho]; simp only [ho, decide_true]
      exact ih (i + 1) i (by omega) (.inl hlt)
    · rw [if_neg ho]; simp only [ho, decide_false]
      exact ih (i + 1) k (by omega) (.inl hk')
theorem fx77 (hG : ∀ f g, G f g = none) (row : List Dart) (hl : row.length ≤ 100000000) : FX G 77 sg77 ((row, ()), ()) = some ((turn row, ()), ()) := by
  refine fx_of (fn := Tryz.f77) (hG _ _) (by kernel_rfl) (by kernel_rfl) ((nf77 _ _ _).trans ?_)
  have := lx77_0 (G := G) hG row hl row.length 0 0 (by omega) (by cases row with | nil => exact .inr ⟨rfl, rfl⟩ | cons x r => exact .inl (by simp))
  exact this

/-! Insert, Remove, Swap. -/
def insR (row : List Dart) (after d : Dart) : List Dart :=
  if d ∈ row then turn row else turn (row.take ((max 0 (idx after row 0)).toNat + 1) ++ (d :: row.drop ((max 0 (idx after row 0)).toNat + 1)))
def remR (row : List Dart) (d : Dart) : List Dart := turn (row.filter fun e => decide (e ≠ d))
def swapR (row : List Dart) (old d : Dart) : List Dart := turn (if old ∈ row ∧ d ∉ row then row.set (idx old row 0).toNat d else row)

theorem fx102 (hG : ∀ f g, G f g = none) (row : List Dart) (d : Dart) (hl : row.length ≤ 100000000) : FX G 102 sg102 ((row, d, ()), ()) = some ((remR row d, ()), ()) := by
  refine fx_of (fn := Tryz.f102) (hG _ _) (by kernel_rfl) (by kernel_rfl) ((nf102 _ _ _).trans ?_)
  have key := loop_list row (fun i (s : List Dart) => LX G 102 sg102 Tryz.f102 sh102_0 (seg Tryz.prog 102 0) ((row, (i, ())), (((d, ()), ()), (s, ())))) (fun r s => ((turn (s ++ r.filter fun e => decide (e ≠ d)), ()), ())) (fun n s => s.length + n ≤ row.length)
    (fun s hs => by
      refine lx_of (j := 0) (by kernel_rfl) ((nl102_0 _ _ _).trans ?_)
      simp only [lt_end, cond_false]
      refine bind_of (fx77 hG s (by omega)) ?_
      simp only [List.filter_nil, List.append_nil]; rfl)
    (fun i x r s hi hx hr hs ih => by
      refine lx_of (j := 0) (by kernel_rfl) ((nl102_0 _ _ _).trans ?_)
      simp only [lt_up hi, cond_true, getI_of hx, Option.bind_some, beqD, wrap_up hi (show row.length ≤ 1073741824 by omega)]
      by_cases he : x = d
      · simp only [he, decide_true, Bool.not_true, ne_eq, not_true_eq_false, decide_false, List.filter_cons, Bool.false_eq_true, if_false]
        exact ih s (by omega)
      · have h5 : fitsN s.length [x].length = true := fits (by simp; omega)
        simp only [he, decide_false, Bool.not_false, h5, ne_eq, not_false_eq_true, decide_true, List.filter_cons, if_true]
        have := ih (s ++ [x]) (by simp; omega)
        rw [List.append_assoc] at this
        exact this)
    [] (by simp)
  exact key
theorem ins_take (row : List Dart) (d : Dart) (k : Nat) : row.take (k + 1) ++ (d :: row.drop (k + 1)) = (row.take (k + 1) ++ [d]) ++ row.drop (k + 1) := by simp
theorem fx100 (hG : ∀ f g, G f g = none) (row : List Dart) (after d : Dart) (hl : row.length ≤ 90000000) : FX G 100 sg100 ((row, after, d, ()), ()) = some ((insR row after d, ()), ()) := by
  refine fx_of (fn := Tryz.f100) (hG _ _) (by kernel_rfl) (by kernel_rfl) ((nf100 _ _ _).trans ?_)
  refine bind_of (fx24 (hG _ _) row d (by omega)) ?_
  by_cases hd : d ∈ row
  case pos =>
    have h1 : ¬ idx d row 0 < 0 := fun h => idx_neg.1 h hd
    have h2 : idx d row 0 ≥ 0 := by omega
    simp only [h2, decide_true, cond_true]
    refine bind_of (fx77 hG row (by omega)) ?_
    unfold insR; rw [if_pos hd]; rfl
  case neg =>
  have h1 : ¬ idx d row 0 ≥ 0 := by have := idx_neg.2 hd; omega
  simp only [h1, decide_false, cond_false]
  refine bind_of (fx24 (hG _ _) row after (by omega)) ?_
  obtain ⟨k, hk⟩ : ∃ k : Nat, max 0 (idx after row 0) = (k : Int) := ⟨(max 0 (idx after row 0)).toNat, by omega⟩
  have hkl : k < row.length ∨ row = [] := by
    rcases idx_range after row 0 (by omega) with ⟨e, _⟩ | ⟨q, e, e2, _⟩
    · have : k = 0 := by omega
      subst this
      cases row with
      | nil => exact .inr rfl
      | cons x r => exact .inl (by simp)
    · have := (List.getElem?_eq_some_iff.1 e2).1
      exact .inl (by omega)
  have hres : insR row after d = turn (row.take (k + 1) ++ (d :: row.drop (k + 1))) := by unfold insR; rw [if_neg hd, hk]; rfl
  rw [hres]
  simp only [hk]
  obtain ⟨fin, hfin⟩ : ∃ fin, fin = row.take (k + 1) ++ (d :: row.drop (k + 1)) := ⟨_, rfl⟩
  rw [← hfin]
  have loop : ∀ (n i : Nat) (out : List Dart), i + n = row.length → out = (if i ≤ k then row.take i else (row.take (k + 1) ++ [d]) ++ (row.drop (k + 1)).take (i - (k + 1))) →
      LX G 100 sg100 Tryz.f100 sh100_0 (seg Tryz.prog 100 0) ((row, ((k : Int), ((i : Int), ()))), (((d, ()), ()), (out, ()))) = some ((turn fin, ()), ()) := by
    intro n
    induction n with
    | zero =>
      intro i out hi hout
      refine lx_of (j := 0) (by kernel_rfl) ((nl100_0 _ _ _).trans ?_)
      have h1 : ¬ ((i : Int) < (row.length : Int)) := by omega
      rcases hkl with hkl | rfl
      · have h0 : ((((row.length : Nat) : Int)) == 0) = false := by simp; intro e; subst e; simp at hkl
        have h2 : out = fin := by
          have hle : (row.drop (k + 1)).take (i - (k + 1)) = row.drop (k + 1) := List.take_of_length_le (by rw [List.length_drop]; omega)
          rw [hout, hfin, if_neg (by omega), ins_take, hle]
        subst h2
        simp only [h1, decide_false, h0]
        exact bind_of (fx77 hG out (by rw [hfin]; simp; omega)) rfl
      · have hi0 : i = 0 := by simpa using hi
        subst hi0
        have h2 : out = [] := by rw [hout]; simp
        subst h2
        have h3 : fin = [d] := by rw [hfin]; simp
        subst h3
        exact bind_of (fx77 hG [d] (by simp)) rfl
    | succ n ih =>
      intro i out hi hout
      refine lx_of (j := 0) (by kernel_rfl) ((nl100_0 _ _ _).trans ?_)
      have hlt : i < row.length := by omega
      have hx : row[i]? = some row[i] := List.getElem?_eq_getElem hlt
      have hol : out.length ≤ row.length + 1 := by rw [hout]; split <;> simp <;> omega
      have h5 : fitsN out.length [row[i]].length = true := fits (by simp; omega)
      simp only [lt_up hlt, getI_of hx, Option.bind_some, wrap_up hlt (show row.length ≤ 1073741824 by omega), h5]
      by_cases hik : i = k
      · subst hik
        have h6 : fitsN (out ++ [row[i]]).length [d].length = true := fits (by simp; omega)
        have h8 : (((i : Nat) : Int) == ((i : Nat) : Int)) = true := by simp
        simp only [h8, h6]
        exact ih (i + 1) ((out ++ [row[i]]) ++ [d]) (by omega) (by rw [if_neg (by omega), hout, if_pos (Nat.le_refl _), List.take_add_one, hx]; simp)
      · have h8 : (((i : Nat) : Int) == ((k : Nat) : Int)) = false := by simp; omega
        simp only [h8]
        refine ih (i + 1) (out ++ [row[i]]) (by omega) ?_
        rw [hout]
        by_cases hle : i ≤ k
        · rw [if_pos hle, if_pos (by omega), List.take_add_one, hx]; rfl
        · have e9 : (row.drop (k + 1)).take (i + 1 - (k + 1)) = (row.drop (k + 1)).take (i - (k + 1)) ++ [row[i]] := by
            rw [show i + 1 - (k + 1) = (i - (k + 1)) + 1 by omega, List.take_add_one, List.getElem?_drop, show k + 1 + (i - (k + 1)) = i by omega, hx]; rfl
          rw [if_neg hle, if_neg (by omega), e9, List.append_assoc]
  exact loop row.length 0 [] (by omega) (by simp)
theorem fx103 (hG : ∀ f g, G f g = none) (row : List Dart) (old d : Dart) (hl : row.length ≤ 100000000) : FX G 103 sg103 ((row, old, d, ()), ()) = some ((swapR row old d, ()), ()) := by
  refine fx_of (fn := Tryz.f103) (hG _ _) (by kernel_rfl) (by kernel_rfl) ((nf103 _ _ _).trans ?_)
  have h5 : fitsN ([] : List Dart).length row.length = true := fits (by simp; omega)
  simp only [h5, cond_true, List.nil_append]
  refine bind_of (fx24 (hG _ _) row old (by omega)) ?_
  unfold swapR
  by_cases ho : old ∈ row
  · obtain ⟨k, h1, h2, h3⟩ := idx_some ho
    have hk := (List.getElem?_eq_some_iff.1 h2).1
    have e1 : ((k : Int) ≥ 0) := by omega
    simp only [h1, e1, decide_true]
    refine bind_of (fx24 (hG _ _) row d (by omega)) ?_
    by_cases hd : d ∈ row
    · have h6 : ¬ idx d row 0 < 0 := fun h => idx_neg.1 h hd
      rw [if_neg (by simp [hd])]
      simp only [h6, decide_false]
      exact bind_of (fx77 hG row hl) rfl
    · have h6 := idx_neg.2 hd
      rw [if_pos ⟨ho, hd⟩]
      have h7 : (0 : Int) ≤ (k : Int) := by omega
      have h8 : ((k : Int) < ((row.length : Nat) : Int)) := by omega
      simp only [h6, decide_true, h7, h8, Bool.and_self, Int.toNat_natCast, h2]
      exact bind_of (fx77 hG (row.set k d) (by simpa using hl)) rfl
  · have h1 : ¬ idx old row 0 ≥ 0 := by have := idx_neg.2 ho; omega
    rw [if_neg (by simp [ho])]
    simp only [h1, decide_false]
    exact bind_of (fx77 hG row hl) rfl
end Go.Vs

set_option linter.unusedVariables false
set_option linter.unusedSimpArgs false
namespace Go.Vs
open Go.Proofs
variable {G : (f : FuncId) → (g : Sig) → Option (g.A → Option g.B)}

def e0 : ByteArray := ⟨#[]⟩
def zI : ID := (0, 0)
def zV : Vert := ((0, 0), ([], (e0, 0)))
def zE : EdgeT := ((0, 0), (e0, 0))
def findV (l : List Vert) (x : ID) : Option Vert := l.find? fun v => decide (v.1 = x)
def findE (l : List EdgeT) (x : ID) : Option EdgeT := l.find? fun v => decide (v.1 = x)
def vertex (d : Diag) (x : ID) : Option Vert := findV d.1 x
def edge (d : Diag) (x : ID) : Option EdgeT := findE d.2 x
def atV (l : List Vert) (x : Dart) : Option ID := (l.find? fun v => decide (x ∈ v.2.1)).map (·.1)
def atD (d : Diag) (x : Dart) : Option ID := atV d.1 x
def orV {α : Type} (z : α) : Option α → α × (Bool × Unit)
  | some y => (y, (true, ()))
  | none => (z, (false, ()))

theorem fx18 (hG : G 18 sg18 = none) (d : Diag) (x : ID) (hl : d.1.length ≤ 100000000) : FX G 18 sg18 ((d, x, ()), ()) = some (orV zV (vertex d x), ()) := by
  refine fx_of (fn := Tryz.f18) hG (by kernel_rfl) (by kernel_rfl) ((nf18 _ _ _).trans ?_)
  have key0 := loop_list d.1 (fun i (_ : Unit) => LX G 18 sg18 Tryz.f18 sh18_0 (seg Tryz.prog 18 0) ((i, ()), (((d, ()), ((x, ()), (((0 : Int), ((0 : Int), (([] : List Dart), (e0, ((0 : Int), ()))))), ()))), ()))) (fun (r : List Vert) (_ : Unit) => (orV zV (findV r x), ())) (fun _ _ => True)
    (fun s _ => by
      refine lx_of (j := 0) (by kernel_rfl) ((nl18_0 _ _ _).trans ?_)
      simp only [lt_end, cond_false]; rfl)
    (fun i y r s hi hx hr _ ih => by
      refine lx_of (j := 0) (by kernel_rfl) ((nl18_0 _ _ _).trans ?_)
      simp only [lt_up hi, cond_true, getI_of hx, Option.bind_some, beqI, wrap_up hi (show d.1.length ≤ 1073741824 by omega)]
      by_cases he : y.1 = x
      · simp only [he, decide_true, findV, findE, List.find?_cons]; subst he; rfl
      · simp only [he, decide_false, findV, findE, List.find?_cons]; exact ih () trivial)
    () trivial
  exact key0
theorem fx21 (hG : G 21 sg21 = none) (d : Diag) (x : ID) (hl : d.2.length ≤ 100000000) : FX G 21 sg21 ((d, x, ()), ()) = some (orV zE (edge d x), ()) := by
  refine fx_of (fn := Tryz.f21) hG (by kernel_rfl) (by kernel_rfl) ((nf21 _ _ _).trans ?_)
  have key0 := loop_list d.2 (fun i (_ : Unit) => LX G 21 sg21 Tryz.f21 sh21_0 (seg Tryz.prog 21 0) ((i, ()), (((d, ()), ((x, ()), (((((0 : Int), (0 : Int)), (e0, (0 : Int))), ()), ()))), ()))) (fun (r : List EdgeT) (_ : Unit) => (orV zE (findE r x), ())) (fun _ _ => True)
    (fun s _ => by
      refine lx_of (j := 0) (by kernel_rfl) ((nl21_0 _ _ _).trans ?_)
      simp only [lt_end, cond_false]; rfl)
    (fun i y r s hi hx hr _ ih => by
      refine lx_of (j := 0) (by kernel_rfl) ((nl21_0 _ _ _).trans ?_)
      simp only [lt_up hi, cond_true, getI_of hx, Option.bind_some, beqI, wrap_up hi (show d.2.length ≤ 1073741824 by omega)]
      by_cases he : y.1 = x
      · simp only [he, decide_true, findV, findE, List.find?_cons]; subst he; rfl
      · simp only [he, decide_false, findV, findE, List.find?_cons]; exact ih () trivial)
    () trivial
  exact key0
theorem fx20 (hG : ∀ f g, G f g = none) (d : Diag) (x : Dart) (hl : d.1.length ≤ 100000000) (hr : ∀ v ∈ d.1, v.2.1.length ≤ 100000000) : FX G 20 sg20 ((d, x, ()), ()) = some (orV zI (atD d x), ()) := by
  refine fx_of (fn := Tryz.f20) (hG _ _) (by kernel_rfl) (by kernel_rfl) ((nf20 _ _ _).trans ?_)
  have key0 := loop_list d.1 (fun i (_ : Unit) => LX G 20 sg20 Tryz.f20 sh20_0 (seg Tryz.prog 20 0) ((i, ()), (((d, ()), ((x, ()), ((((0 : Int), (0 : Int)), ()), ()))), ()))) (fun r _ => (orV zI (atV r x), ())) (fun _ _ => True)
    (fun s _ => by
      refine lx_of (j := 0) (by kernel_rfl) ((nl20_0 _ _ _).trans ?_)
      simp only [lt_end, cond_false]; rfl)
    (fun i y r s hi hx hrr _ ih => by
      refine lx_of (j := 0) (by kernel_rfl) ((nl20_0 _ _ _).trans ?_)
      simp only [lt_up hi, cond_true, getI_of hx, Option.bind_some, wrap_up hi (show d.1.length ≤ 1073741824 by omega)]
      refine bind_of (fx24 (hG _ _) y.2.1 x (by have := hr y (List.mem_of_getElem? hx); omega)) ?_
      by_cases he : x ∈ y.2.1
      · have h1 : idx x y.2.1 0 ≥ 0 := by obtain ⟨k, h, _⟩ := idx_some he; omega
        simp only [h1, decide_true, atV, List.find?_cons, he]; rfl
      · have h1 : ¬ idx x y.2.1 0 ≥ 0 := by have := idx_neg.2 he; omega
        simp only [h1, decide_false, atV, List.find?_cons, he]; exact ih () trivial)
    () trivial
  exact key0
theorem fx38 (hG : G 38 sg38 = none) (d : Diag) (hl : d.1.length ≤ 100000000) (hl2 : d.2.length ≤ 100000000) (hr : ∀ v ∈ d.1, v.2.1.length ≤ 100000000) : FX G 38 sg38 ((d, ()), ()) = some (((d.1, (d.2, ())), ()), ()) := by
  refine fx_of (fn := Tryz.f38) hG (by kernel_rfl) (by kernel_rfl) ((nf38 _ _ _).trans ?_)
  have h5 : fitsN ([] : List EdgeT).length d.2.length = true := fits (by simp; omega)
  simp only [h5, cond_true, List.nil_append]
  have key0 := loop_list d.1 (fun i (out : List Vert) => LX G 38 sg38 Tryz.f38 sh38_0 (seg Tryz.prog 38 0) ((i, ()), (((d, ()), ((([] : List Vert), (([] : List EdgeT), ())), ((out, (d.2, ())), ()))), ()))) (fun r s => (((s ++ r, (d.2, ())), ()), ())) (fun n s => s.length + n ≤ d.1.length)
    (fun s _ => by
      refine lx_of (j := 0) (by kernel_rfl) ((nl38_0 _ _ _).trans ?_)
      simp only [lt_end, List.append_nil]; rfl)
    (fun i y r s hi hx hrr hs ih => by
      refine lx_of (j := 0) (by kernel_rfl) ((nl38_0 _ _ _).trans ?_)
      have h6 : fitsN ([] : List Dart).length y.2.1.length = true := fits (by have := hr y (List.mem_of_getElem? hx); simp; omega)
      have h7 : fitsN s.length [(y.1, (y.2.1, y.2.2))].length = true := fits (by simp; omega)
      simp only [lt_up hi, getI_of hx, Option.bind_some, h6, List.nil_append, h7, wrap_up hi (show d.1.length ≤ 1073741824 by omega)]
      have := ih (s ++ [y]) (by simp; omega)
      rw [List.append_assoc] at this
      exact this)
    [] (by simp)
  exact key0
def addV (v : Vert) : List Vert → List Vert
  | [] => [v]
  | w :: r => if ltI v.1 w.1 then v :: w :: r else w :: addV v r
def addE (v : EdgeT) : List EdgeT → List EdgeT
  | [] => [v]
  | w :: r => if ltI v.1 w.1 then v :: w :: r else w :: addE v r
theorem ltI_irrefl (a : ID) : ltI a a = false := by simp [ltI]
theorem ordI_lt (a b : ID) : ordI a b < 0 ↔ ltI a b = true := by
  unfold ordI
  by_cases h : a = b
  · subst h; simp [ltI_irrefl]
  · rw [if_neg h]; split <;> simp_all
theorem fx46 (hG : ∀ f g, G f g = none) (d : Diag) (v : Vert) (hl : d.1.length ≤ 100000000) : FX G 46 sg46 ((d, v, ()), ()) = some (((addV v d.1, d.2), ()), ()) := by
  refine fx_of (fn := Tryz.f46) (hG _ _) (by kernel_rfl) (by kernel_rfl) ((nf46 _ _ _).trans ?_)
  have key := loop_list d.1 (fun i (s : Bool × List Vert) => LX G 46 sg46 Tryz.f46 sh46_0 (seg Tryz.prog 46 0) ((s.1, (i, ())), (((d, ()), ((v, ()), ((([] : List Vert), (([] : List EdgeT), ())), ((s.2, (d.2, ())), ())))), ())))
    (fun r s => (((s.2 ++ (if s.1 then r else addV v r), d.2), ()), ())) (fun n s => s.2.length + n ≤ d.1.length + (if s.1 then 1 else 0))
    (fun s hs => by
      obtain ⟨put, s⟩ := s
      refine lx_of (j := 0) (by kernel_rfl) ((nl46_0 _ _ _).trans ?_)
      have h7 : fitsN s.length [v].length = true := fits (by simp at hs ⊢; split at hs <;> omega)
      cases put
      · simp only [lt_end, h7, addV]; rfl
      · simp only [lt_end, if_true, List.append_nil]; rfl)
    (fun i y r s hi hx hrr hs ih => by
      obtain ⟨put, s⟩ := s
      refine lx_of (j := 0) (by kernel_rfl) ((nl46_0 _ _ _).trans ?_)
      have h6 : fitsN s.length [y].length = true := fits (by simp at hs ⊢; split at hs <;> omega)
      cases put
      · have h7 : fitsN s.length [v].length = true := fits (by simp at hs ⊢; omega)
        have h8 : fitsN (s ++ [v]).length [y].length = true := fits (by simp at hs ⊢; omega)
        simp only [lt_up hi, getI_of hx, Option.bind_some, wrap_up hi (show d.1.length ≤ 1073741824 by omega)]
        refine bind_of (fx69 (hG _ _) v.1 y.1) ?_
        by_cases ho : ltI v.1 y.1 = true
        · have h9 := (ordI_lt _ _).2 ho
          have := ih (true, (s ++ [v]) ++ [y]) (by simp at hs ⊢; omega)
          simp only [h9, decide_true, h7, h8, addV, ho, if_true, Bool.false_eq_true, if_false]
          exact this.trans (congrArg (fun l : List Vert => some (((l, d.2), ()), ())) (show ((s ++ [v]) ++ [y]) ++ r = s ++ (v :: y :: r) by simp))
        · have h9 : ¬ ordI v.1 y.1 < 0 := fun h => ho ((ordI_lt _ _).1 h)
          have := ih (false, s ++ [y]) (by simp at hs ⊢; omega)
          simp only [h9, decide_false, h6, addV, ho, if_false, Bool.false_eq_true]
          exact this.trans (congrArg (fun l : List Vert => some (((l, d.2), ()), ())) (show (s ++ [y]) ++ addV v r = s ++ (y :: addV v r) by simp))
      · have := ih (true, s ++ [y]) (by simp at hs ⊢; omega)
        simp only [lt_up hi, getI_of hx, Option.bind_some, wrap_up hi (show d.1.length ≤ 1073741824 by omega), h6, if_true]
        exact this.trans (congrArg (fun l : List Vert => some (((l, d.2), ()), ())) (show (s ++ [y]) ++ r = s ++ (y :: r) by simp)))
    (false, []) (by simp)
  exact key
theorem fx71 (hG : ∀ f g, G f g = none) (d : Diag) (v : EdgeT) (hl : d.2.length ≤ 100000000) : FX G 71 sg71 ((d, v, ()), ()) = some (((d.1, addE v d.2), ()), ()) := by
  refine fx_of (fn := Tryz.f71) (hG _ _) (by kernel_rfl) (by kernel_rfl) ((nf71 _ _ _).trans ?_)
  have key := loop_list d.2 (fun i (s : Bool × List EdgeT) => LX G 71 sg71 Tryz.f71 sh71_0 (seg Tryz.prog 71 0) ((s.1, (i, ())), (((d, ()), ((v, ()), ((([] : List Vert), (([] : List EdgeT), ())), ((d.1, (s.2, ())), ())))), ())))
    (fun r s => (((d.1, s.2 ++ (if s.1 then r else addE v r)), ()), ())) (fun n s => s.2.length + n ≤ d.2.length + (if s.1 then 1 else 0))
    (fun s hs => by
      obtain ⟨put, s⟩ := s
      refine lx_of (j := 0) (by kernel_rfl) ((nl71_0 _ _ _).trans ?_)
      have h7 : fitsN s.length [v].length = true := fits (by simp at hs ⊢; split at hs <;> omega)
      cases put
      · simp only [lt_end, h7, addE]; rfl
      · simp only [lt_end, if_true, List.append_nil]; rfl)
    (fun i y r s hi hx hrr hs ih => by
      obtain ⟨put, s⟩ := s
      refine lx_of (j := 0) (by kernel_rfl) ((nl71_0 _ _ _).trans ?_)
      have h6 : fitsN s.length [y].length = true := fits (by simp at hs ⊢; split at hs <;> omega)
      cases put
      · have h7 : fitsN s.length [v].length = true := fits (by simp at hs ⊢; omega)
        have h8 : fitsN (s ++ [v]).length [y].length = true := fits (by simp at hs ⊢; omega)
        simp only [lt_up hi, getI_of hx, Option.bind_some, wrap_up hi (show d.2.length ≤ 1073741824 by omega)]
        refine bind_of (fx69 (hG _ _) v.1 y.1) ?_
        by_cases ho : ltI v.1 y.1 = true
        · have h9 := (ordI_lt _ _).2 ho
          have := ih (true, (s ++ [v]) ++ [y]) (by simp at hs ⊢; omega)
          simp only [h9, decide_true, h7, h8, addE, ho, if_true, Bool.false_eq_true, if_false]
          exact this.trans (congrArg (fun l : List EdgeT => some (((d.1, l), ()), ())) (show ((s ++ [v]) ++ [y]) ++ r = s ++ (v :: y :: r) by simp))
        · have h9 : ¬ ordI v.1 y.1 < 0 := fun h => ho ((ordI_lt _ _).1 h)
          have := ih (false, s ++ [y]) (by simp at hs ⊢; omega)
          simp only [h9, decide_false, h6, addE, ho, if_false, Bool.false_eq_true]
          exact this.trans (congrArg (fun l : List EdgeT => some (((d.1, l), ()), ())) (show (s ++ [y]) ++ addE v r = s ++ (y :: addE v r) by simp))
      · have := ih (true, s ++ [y]) (by simp at hs ⊢; omega)
        simp only [lt_up hi, getI_of hx, Option.bind_some, wrap_up hi (show d.2.length ≤ 1073741824 by omega), h6, if_true]
        exact this.trans (congrArg (fun l : List EdgeT => some (((d.1, l), ()), ())) (show (s ++ [y]) ++ r = s ++ (y :: r) by simp)))
    (false, []) (by simp)
  exact key

def dropV (l : List Vert) (v : ID) : List Vert := l.filter fun w => decide (w.1 ≠ v)
def dropE (l : List EdgeT) (v : ID) : List EdgeT := l.filter fun w => decide (w.1 ≠ v)
def without (d : Diag) (v e : ID) : Diag := (dropV d.1 v, dropE d.2 e)
theorem fx47 (hG : G 47 sg47 = none) (d : Diag) (v e : ID) (hl : d.1.length ≤ 100000000) (hl2 : d.2.length ≤ 100000000) : FX G 47 sg47 ((d, v, e, ()), ()) = some ((without d v e, ()), ()) := by
  refine fx_of (fn := Tryz.f47) hG (by kernel_rfl) (by kernel_rfl) ((nf47 _ _ _).trans ?_)
  have key1 := fun vs => loop_list d.2 (fun i (s : List EdgeT) => LX G 47 sg47 Tryz.f47 sh47_1 (seg Tryz.prog 47 1) ((i, ()), (((d, ()), ((e, ()), ((([] : List Vert), (([] : List EdgeT), ())), ((vs, (s, ())), ())))), ())))
    (fun (r : List EdgeT) (s : List EdgeT) => (((vs, s ++ dropE r e), ()), ())) (fun n s => s.length + n ≤ d.2.length)
    (fun s hs => by
      refine lx_of (j := 1) (by kernel_rfl) ((nl47_1 _ _ _).trans ?_)
      simp only [lt_end, dropV, dropE, List.filter_nil, List.append_nil]; rfl)
    (fun i y r s hi hx hrr hs ih => by
      refine lx_of (j := 1) (by kernel_rfl) ((nl47_1 _ _ _).trans ?_)
      have h6 : fitsN s.length [y].length = true := fits (by simp at hs ⊢; omega)
      simp only [lt_up hi, getI_of hx, Option.bind_some, beqI, wrap_up hi (show d.2.length ≤ 1073741824 by omega)]
      by_cases he : y.1 = e
      · simp only [he, decide_true, Bool.not_true, ne_eq, not_true_eq_false, decide_false, dropV, dropE, List.filter_cons, Bool.false_eq_true, if_false]
        exact ih s (by omega)
      · simp only [he, decide_false, Bool.not_false, h6, ne_eq, not_false_eq_true, decide_true, dropV, dropE, List.filter_cons, if_true]
        have := ih (s ++ [y]) (by simp; omega)
        rw [List.append_assoc] at this
        exact this)
    [] (by simp)
  have key0 := loop_list d.1 (fun i (s : List Vert) => LX G 47 sg47 Tryz.f47 sh47_0 (seg Tryz.prog 47 0) ((i, ()), (((d, ()), ((v, ()), ((e, ()), ((([] : List Vert), (([] : List EdgeT), ())), ((s, (([] : List EdgeT), ())), ()))))), ())))
    (fun (r : List Vert) (s : List Vert) => (((s ++ dropV r v, dropE d.2 e), ()), ())) (fun n s => s.length + n ≤ d.1.length)
    (fun s hs => by
      refine lx_of (j := 0) (by kernel_rfl) ((nl47_0 _ _ _).trans ?_)
      simp only [lt_end, dropV, dropE, List.filter_nil, List.append_nil]
      exact key1 s)
    (fun i y r s hi hx hrr hs ih => by
      refine lx_of (j := 0) (by kernel_rfl) ((nl47_0 _ _ _).trans ?_)
      have h6 : fitsN s.length [y].length = true := fits (by simp at hs ⊢; omega)
      simp only [lt_up hi, getI_of hx, Option.bind_some, beqI, wrap_up hi (show d.1.length ≤ 1073741824 by omega)]
      by_cases he : y.1 = v
      · simp only [he, decide_true, Bool.not_true, ne_eq, not_true_eq_false, decide_false, dropV, dropE, List.filter_cons, Bool.false_eq_true, if_false]
        exact ih s (by omega)
      · simp only [he, decide_false, Bool.not_false, h6, ne_eq, not_false_eq_true, decide_true, dropV, dropE, List.filter_cons, if_true]
        have := ih (s ++ [y]) (by simp; omega)
        rw [List.append_assoc] at this
        exact this)
    [] (by simp)
  exact key0
end Go.Vs

set_option linter.unusedVariables false
set_option linter.unusedSimpArgs false
namespace Go.Vs
open Go.Proofs
variable {G : (f : FuncId) → (g : Sig) → Option (g.A → Option g.B)}

instance decLV : DecidableEq (List Vert) := @instDecidableEqList Vert inferInstance
instance decLE : DecidableEq (List EdgeT) := @instDecidableEqList EdgeT inferInstance
instance decDiag : DecidableEq Diag := instDecidableEqProd
instance decState : DecidableEq StateT := instDecidableEqProd

/-- Not too much to be read. -/
structure Sm (d : Diag) : Prop where
  v : d.1.length ≤ 50000000
  e : d.2.length ≤ 50000000
  r : ∀ w ∈ d.1, w.2.1.length ≤ 50000000

def reR (x : ID) (l : List Dart) (w : Vert) : Vert := if w.1 = x then (w.1, (l, w.2.2)) else w
def ringed (d : Diag) (x : ID) (l : List Dart) : Diag := (d.1.map (reR x l), d.2)
theorem ge_up (i : Nat) : decide ((0 : Int) ≤ (i : Int)) = true := by simp
theorem set_map {α : Type} (f : α → α) (l : List α) (i : Nat) (x : α) (hx : l[i]? = some x) : ((l.take i).map f ++ l.drop i).set i (f x) = (l.take (i + 1)).map f ++ l.drop (i + 1) := by
  have hi := (List.getElem?_eq_some_iff.1 hx).1
  have h2 : l.drop i = l[i] :: l.drop (i + 1) := List.drop_eq_getElem_cons hi
  have h3 : l[i] = x := (List.getElem?_eq_some_iff.1 hx).2
  rw [List.set_append_right _ _ (by simp; omega), h2, List.length_map, List.length_take, Nat.min_eq_left (by omega), Nat.sub_self, List.set_cons_zero, List.take_add_one, hx]
  simp
theorem keep_map {α : Type} (f : α → α) (l : List α) (i : Nat) (x : α) (hx : l[i]? = some x) (hf : f x = x) : (l.take i).map f ++ l.drop i = (l.take (i + 1)).map f ++ l.drop (i + 1) := by
  have hi := (List.getElem?_eq_some_iff.1 hx).1
  have h2 : l.drop i = l[i] :: l.drop (i + 1) := List.drop_eq_getElem_cons hi
  have h3 : l[i] = x := (List.getElem?_eq_some_iff.1 hx).2
  rw [h2, h3, List.take_add_one, hx]; simp [hf]
theorem map_get {α : Type} (f : α → α) (l : List α) (i : Nat) (x : α) (hx : l[i]? = some x) : ((l.take i).map f ++ l.drop i)[i]? = some x := by
  have hi := (List.getElem?_eq_some_iff.1 hx).1
  rw [List.getElem?_append_right (by simp; omega), List.length_map, List.length_take, Nat.min_eq_left (by omega), Nat.sub_self, List.getElem?_drop, Nat.add_zero, hx]

theorem fx99 (hG : ∀ f g, G f g = none) (d : Diag) (x : ID) (l : List Dart) (hs : Sm d) : FX G 99 sg99 ((d, x, l, ()), ()) = some ((ringed d x l, ()), ()) := by
  have hv := hs.v; have he := hs.e
  refine fx_of (fn := Tryz.f99) (hG _ _) (by kernel_rfl) (by kernel_rfl) ((nf99 _ _ _).trans ?_)
  refine bind_of (fx38 (hG _ _) d (by omega) (by omega) (fun w hw => by have := hs.r w hw; omega)) ?_
  have loop : ∀ (n i : Nat) (out fin : List Vert), i + n = d.1.length → out = (d.1.take i).map (reR x l) ++ d.1.drop i → fin = d.1.map (reR x l) →
      LX G 99 sg99 Tryz.f99 sh99_0 (seg Tryz.prog 99 0) ((l, ((i : Int), ())), (((x, ()), ((([] : List Vert), (([] : List EdgeT), ())), ((out, (d.2, ())), ()))), ())) = some (((fin, d.2), ()), ()) := by
    intro n
    induction n with
    | zero =>
      intro i out fin hi ho hf
      refine lx_of (j := 0) (by kernel_rfl) ((nl99_0 _ _ _).trans ?_)
      have hol : out.length = d.1.length := by rw [ho]; simp; omega
      have h1 : ¬ ((i : Int) < (out.length : Int)) := by omega
      have h2 : out = fin := by rw [ho, hf, List.take_of_length_le (by omega), List.drop_eq_nil_of_le (by omega), List.append_nil]
      subst h2
      simp only [h1, decide_false]; rfl
    | succ n ih =>
      intro i out fin hi ho hf
      refine lx_of (j := 0) (by kernel_rfl) ((nl99_0 _ _ _).trans ?_)
      have hol : out.length = d.1.length := by rw [ho]; simp; omega
      have hlt : i < d.1.length := by omega
      have hx : d.1[i]? = some d.1[i] := List.getElem?_eq_getElem hlt
      have hg : out[i]? = some d.1[i] := by rw [ho]; exact map_get _ _ _ _ hx
      simp only [lt_up (show i < out.length by omega), ge_up, Bool.and_self, Int.toNat_natCast, hg, Option.bind_some, beqI, wrap_up hlt (show d.1.length ≤ 1073741824 by omega)]
      by_cases hq : d.1[i].1 = x
      · have e1 : reR x l d.1[i] = (x, (l, d.1[i].2.2)) := by unfold reR; rw [if_pos hq, hq]
        simp only [hq, decide_true]
        exact ih (i + 1) (out.set i (x, (l, d.1[i].2.2))) fin (by omega) (by rw [ho, ← set_map _ _ _ _ hx, e1]) hf
      · have e1 : reR x l d.1[i] = d.1[i] := by unfold reR; rw [if_neg hq]
        simp only [hq, decide_false]
        exact ih (i + 1) out fin (by omega) (by rw [ho]; exact keep_map _ _ _ _ hx e1) hf
  exact loop d.1.length 0 d.1 (d.1.map (reR x l)) (by omega) (by simp) rfl

def ringAt (d : Diag) (x : ID) : List Dart := ((vertex d x).getD zV).2.1
theorem orV_fst {α : Type} (z : α) (o : Option α) : (orV z o).1 = o.getD z := by cases o <;> rfl
theorem orV_snd {α : Type} (z : α) (o : Option α) : (orV z o).2.1 = o.isSome := by cases o <;> rfl
theorem ringAt_le {d : Diag} (hs : Sm d) (x : ID) : (ringAt d x).length ≤ 50000000 := by
  unfold ringAt
  cases h : vertex d x with
  | none => simp [zV]
  | some v => exact hs.r v (List.mem_of_find?_eq_some h)
def inserted (d : Diag) (c : Cor) (x : Dart) : Diag := ringed d c.1 (insR (ringAt d c.1) c.2 x)
def swapped (d : Diag) (old x : Dart) : Diag := ringed d ((atD d old).getD zI) (swapR (ringAt d ((atD d old).getD zI)) old x)
def removed (d : Diag) (x : Dart) : Diag := ringed d ((atD d x).getD zI) (remR (ringAt d ((atD d x).getD zI)) x)
theorem fx72 (hG : ∀ f g, G f g = none) (d : Diag) (c : Cor) (x : Dart) (hs : Sm d) : FX G 72 sg72 ((d, c, x, ()), ()) = some ((inserted d c x, ()), ()) := by
  have hv := hs.v
  have hr := ringAt_le hs c.1
  refine fx_of (fn := Tryz.f72) (hG _ _) (by kernel_rfl) (by kernel_rfl) ((nf72 _ _ _).trans ?_)
  refine bind_of (fx18 (hG _ _) d c.1 (by omega)) ?_
  rw [show (orV zV (vertex d c.1)).1 = (vertex d c.1).getD zV from orV_fst _ _]
  refine bind_of (fx100 hG (ringAt d c.1) c.2 x (by omega)) ?_
  exact bind_of (fx99 hG d c.1 (insR (ringAt d c.1) c.2 x) hs) rfl
theorem fx76 (hG : ∀ f g, G f g = none) (d : Diag) (old x : Dart) (hs : Sm d) : FX G 76 sg76 ((d, old, x, ()), ()) = some ((swapped d old x, ()), ()) := by
  have hv := hs.v
  have hr := ringAt_le hs ((atD d old).getD zI)
  refine fx_of (fn := Tryz.f76) (hG _ _) (by kernel_rfl) (by kernel_rfl) ((nf76 _ _ _).trans ?_)
  refine bind_of (fx20 hG d old (by omega) (fun w hw => by have := hs.r w hw; omega)) ?_
  rw [show (orV zI (atD d old)).1 = (atD d old).getD zI from orV_fst _ _]
  refine bind_of (fx18 (hG _ _) d ((atD d old).getD zI) (by omega)) ?_
  rw [show (orV zV (vertex d ((atD d old).getD zI))).1 = (vertex d ((atD d old).getD zI)).getD zV from orV_fst _ _]
  refine bind_of (fx103 hG (ringAt d ((atD d old).getD zI)) old x (by omega)) ?_
  exact bind_of (fx99 hG d ((atD d old).getD zI) (swapR (ringAt d ((atD d old).getD zI)) old x) hs) rfl
theorem fx75 (hG : ∀ f g, G f g = none) (d : Diag) (x : Dart) (hs : Sm d) : FX G 75 sg75 ((d, x, ()), ()) = some ((removed d x, ()), ()) := by
  have hv := hs.v
  have hr := ringAt_le hs ((atD d x).getD zI)
  refine fx_of (fn := Tryz.f75) (hG _ _) (by kernel_rfl) (by kernel_rfl) ((nf75 _ _ _).trans ?_)
  refine bind_of (fx20 hG d x (by omega) (fun w hw => by have := hs.r w hw; omega)) ?_
  rw [show (orV zI (atD d x)).1 = (atD d x).getD zI from orV_fst _ _]
  refine bind_of (fx18 (hG _ _) d ((atD d x).getD zI) (by omega)) ?_
  rw [show (orV zV (vertex d ((atD d x).getD zI))).1 = (vertex d ((atD d x).getD zI)).getD zV from orV_fst _ _]
  refine bind_of (fx102 hG (ringAt d ((atD d x).getD zI)) x (by omega)) ?_
  exact bind_of (fx99 hG d ((atD d x).getD zI) (remR (ringAt d ((atD d x).getD zI)) x) hs) rfl

def prevR (row : List Dart) (x : Dart) : Dart := (stepD row x (row.length - 1)).getD zD
theorem orZ_fst (o : Option Dart) : (orZ o).1 = o.getD zD := by cases o <;> rfl
def aheadD (d : Diag) (x : Dart) : Dart :=
  let row := ringAt d ((atD d x).getD zI)
  let y := prevR row x
  let z := if y.1 = x.1 then prevR row y else y
  if z.1 = x.1 then zD else z
theorem fx74 (hG : ∀ f g, G f g = none) (d : Diag) (x : Dart) (hs : Sm d) : FX G 74 sg74 ((d, x, ()), ()) = some ((aheadD d x, ()), ()) := by
  have hv := hs.v
  have hr := ringAt_le hs ((atD d x).getD zI)
  refine fx_of (fn := Tryz.f74) (hG _ _) (by kernel_rfl) (by kernel_rfl) ((nf74 _ _ _).trans ?_)
  refine bind_of (fx20 hG d x (by omega) (fun w hw => by have := hs.r w hw; omega)) ?_
  rw [show (orV zI (atD d x)).1 = (atD d x).getD zI from orV_fst _ _]
  refine bind_of (fx18 (hG _ _) d ((atD d x).getD zI) (by omega)) ?_
  rw [show (orV zV (vertex d ((atD d x).getD zI))).1 = (vertex d ((atD d x).getD zI)).getD zV from orV_fst _ _]
  refine bind_of (fx26 hG (ringAt d ((atD d x).getD zI)) x (by omega)) ?_
  rw [show (orZ (stepD (ringAt d ((atD d x).getD zI)) x ((ringAt d ((atD d x).getD zI)).length - 1))).1 = prevR (ringAt d ((atD d x).getD zI)) x from orZ_fst _]
  unfold aheadD
  obtain ⟨y, hy⟩ : ∃ y, y = prevR (ringAt d ((atD d x).getD zI)) x := ⟨_, rfl⟩
  simp only [← hy, beqI]
  by_cases h1 : y.1 = x.1
  · have d1 := decide_eq_true h1
    rw [if_pos h1]
    simp only [d1]
    refine bind_of (fx26 hG (ringAt d ((atD d x).getD zI)) y (by omega)) ?_
    rw [show (orZ (stepD (ringAt d ((atD d x).getD zI)) y ((ringAt d ((atD d x).getD zI)).length - 1))).1 = prevR (ringAt d ((atD d x).getD zI)) y from orZ_fst _]
    by_cases h2 : (prevR (ringAt d ((atD d x).getD zI)) y).1 = x.1
    · have d2 := decide_eq_true h2
      rw [if_pos h2]
      simp only [d2]; rfl
    · have d2 := decide_eq_false h2
      rw [if_neg h2]
      simp only [d2]; rfl
  · have d1 := decide_eq_false h1
    rw [if_neg h1, if_neg h1]
    simp only [d1]; rfl

def findG (l : List GoneT) (d : Dart) : Option Dart := (l.find? fun g => decide (g.1 = d)).map (·.2)
theorem fx101 (hG : G 101 sg101 = none) (l : List GoneT) (d : Dart) (hl : l.length ≤ 100000000) : FX G 101 sg101 ((l, d, ()), ()) = some (orV zD (findG l d), ()) := by
  refine fx_of (fn := Tryz.f101) hG (by kernel_rfl) (by kernel_rfl) ((nf101 _ _ _).trans ?_)
  have key := loop_list l (fun i (_ : Unit) => LX G 101 sg101 Tryz.f101 sh101_0 (seg Tryz.prog 101 0) ((l, (i, ())), (((d, ()), (((((0 : Int), (0 : Int)), (0 : Int)), ()), ())), ()))) (fun (r : List GoneT) (_ : Unit) => (orV zD (findG r d), ())) (fun _ _ => True)
    (fun s _ => by
      refine lx_of (j := 0) (by kernel_rfl) ((nl101_0 _ _ _).trans ?_)
      simp only [lt_end, cond_false]; rfl)
    (fun i y r s hi hx hr _ ih => by
      refine lx_of (j := 0) (by kernel_rfl) ((nl101_0 _ _ _).trans ?_)
      simp only [lt_up hi, getI_of hx, Option.bind_some, beqD, wrap_up hi (show l.length ≤ 1073741824 by omega)]
      by_cases he : y.1 = d
      · simp only [he, decide_true, findG, List.find?_cons]; rfl
      · simp only [he, decide_false, findG, List.find?_cons]; exact ih () trivial)
    () trivial
  exact key

end Go.Vs

set_option linter.unusedVariables false
set_option linter.unusedSimpArgs false
namespace Go.Vs
open Go.Proofs
variable {G : (f : FuncId) → (g : Sig) → Option (g.A → Option g.B)}

def fltG (g : GoneT) (l : List GoneT) : List GoneT := l.filter fun q => decide (q.1 ≠ g.1)
def addG (g : GoneT) : List GoneT → List GoneT
  | [] => [g]
  | e :: r => if ordD g.1 e.1 ≤ 0 then g :: fltG g (e :: r) else if e.1 ≠ g.1 then e :: addG g r else addG g r
def addGone (l : List GoneT) (g : GoneT) : List GoneT := if (findG l g.1).isSome = false ∧ 400 ≤ l.length then l else addG g l
def goG (g : GoneT) (put : Bool) (r : List GoneT) : List GoneT := if put then fltG g r else addG g r
theorem lx73 (hG : ∀ f g, G f g = none) (l : List GoneT) (g : GoneT) (hl : l.length ≤ 50000000) :
    LX G 73 sg73 Tryz.f73 sh73_0 (seg Tryz.prog 73 0) ((l, (false, ((0 : Int), ()))), (((g, ()), ()), (([] : List GoneT), ()))) = some ((addG g l, ()), ()) := by
  have key := loop_list l (fun i (s : Bool × List GoneT) => LX G 73 sg73 Tryz.f73 sh73_0 (seg Tryz.prog 73 0) ((l, (s.1, (i, ()))), (((g, ()), ()), (s.2, ()))))
    (fun (r : List GoneT) (s : Bool × List GoneT) => ((s.2 ++ goG g s.1 r, ()), ())) (fun n s => s.2.length + n ≤ l.length + (if s.1 then 1 else 0))
    (fun s hs => by
      obtain ⟨put, s⟩ := s
      refine lx_of (j := 0) (by kernel_rfl) ((nl73_0 _ _ _).trans ?_)
      have h7 : fitsN s.length [g].length = true := fits (by simp at hs ⊢; split at hs <;> omega)
      cases put
      · simp only [lt_end, h7, goG, addG]; rfl
      · simp only [lt_end, goG, if_true, fltG, List.filter_nil, List.append_nil]; rfl)
    (fun i y r s hi hx hrr hs ih => by
      obtain ⟨put, s⟩ := s
      refine lx_of (j := 0) (by kernel_rfl) ((nl73_0 _ _ _).trans ?_)
      have h6 : fitsN s.length [y].length = true := fits (by simp at hs ⊢; split at hs <;> omega)
      have hw := wrap_up hi (show l.length ≤ 1073741824 by omega)
      cases put
      · have h7 : fitsN s.length [g].length = true := fits (by simp at hs ⊢; omega)
        have h8 : fitsN (s ++ [g]).length [y].length = true := fits (by simp at hs ⊢; omega)
        simp only [lt_up hi, getI_of hx, Option.bind_some, hw]
        refine bind_of (fx62 hG g.1 y.1) ?_
        by_cases ho : ordD g.1 y.1 ≤ 0
        · have d0 := decide_eq_true ho
          by_cases hy : y.1 = g.1
          · have d1 := decide_eq_true hy
            have := ih (true, s ++ [g]) (by simp at hs ⊢; omega)
            simp only [d0, h7, beqD, d1, goG, addG, ho, if_true, Bool.false_eq_true, if_false]
            refine this.trans (congrArg (fun l : List GoneT => some ((l, ()), ())) ?_)
            simp [goG, fltG, hy]
          · have d1 := decide_eq_false hy
            have := ih (true, (s ++ [g]) ++ [y]) (by simp at hs ⊢; omega)
            simp only [d0, h7, h8, beqD, d1, goG, addG, ho, if_true, Bool.false_eq_true, if_false]
            refine this.trans (congrArg (fun l : List GoneT => some ((l, ()), ())) ?_)
            simp [goG, fltG, hy]
        · have d0 := decide_eq_false ho
          by_cases hy : y.1 = g.1
          · have d1 := decide_eq_true hy
            have := ih (false, s) (by simp at hs ⊢; omega)
            simp only [d0, beqD, d1, goG, addG, ho, Bool.false_eq_true, if_false]
            refine this.trans (congrArg (fun l : List GoneT => some ((l, ()), ())) ?_)
            simp [goG, hy]
          · have d1 := decide_eq_false hy
            have := ih (false, s ++ [y]) (by simp at hs ⊢; omega)
            simp only [d0, h6, beqD, d1, goG, addG, ho, Bool.false_eq_true, if_false]
            refine this.trans (congrArg (fun l : List GoneT => some ((l, ()), ())) ?_)
            simp [goG, hy]
      · by_cases hy : y.1 = g.1
        · have d1 := decide_eq_true hy
          have := ih (true, s) (by simp at hs ⊢; omega)
          simp only [lt_up hi, getI_of hx, Option.bind_some, hw, beqD, d1]
          refine this.trans (congrArg (fun l : List GoneT => some ((l, ()), ())) ?_)
          simp [goG, fltG, hy]
        · have d1 := decide_eq_false hy
          have := ih (true, s ++ [y]) (by simp at hs ⊢; omega)
          simp only [lt_up hi, getI_of hx, Option.bind_some, hw, beqD, d1, h6]
          refine this.trans (congrArg (fun l : List GoneT => some ((l, ()), ())) ?_)
          simp [goG, fltG, hy])
    (false, []) (by simp)
  exact key
theorem fx73 (hG : ∀ f g, G f g = none) (l : List GoneT) (g : GoneT) (hl : l.length ≤ 50000000) : FX G 73 sg73 ((l, g, ()), ()) = some ((addGone l g, ()), ()) := by
  refine fx_of (fn := Tryz.f73) (hG _ _) (by kernel_rfl) (by kernel_rfl) ((nf73 _ _ _).trans ?_)
  refine bind_of (fx101 (hG _ _) l g.1 (by omega)) ?_
  rw [show (orV zD (findG l g.1)).2.1 = (findG l g.1).isSome from orV_snd _ _]
  unfold addGone
  cases hf : (findG l g.1).isSome
  · by_cases hn : 400 ≤ l.length
    · have h1 : decide (((l.length : Nat) : Int) ≥ 400) = true := by simp; omega
      rw [if_pos ⟨rfl, hn⟩]
      simp only [h1]; rfl
    · have h1 : decide (((l.length : Nat) : Int) ≥ 400) = false := by simp; omega
      rw [if_neg (by simp [hn])]
      simp only [h1]; exact lx73 hG l g hl
  · rw [if_neg (by simp)]
    exact lx73 hG l g hl

def res (d : Diag) (gn : List GoneT) : Nat → Dart → Dart
  | 0, _ => zD
  | n + 1, x => if (atD d x).isSome then x else match findG gn x with
    | none => zD
    | some y => res d gn n y
def resolve (s : StateT) (x : Dart) : Dart := res s.1 s.2 (s.2.length + 1) x
theorem fx98 (hG : ∀ f g, G f g = none) (s : StateT) (x : Dart) (hs : Sm s.1) (hg : s.2.length ≤ 50000000) : FX G 98 sg98 ((s, x, ()), ()) = some ((resolve s x, ()), ()) := by
  refine fx_of (fn := Tryz.f98) (hG _ _) (by kernel_rfl) (by kernel_rfl) ((nf98 _ _ _).trans ?_)
  have hv := hs.v
  have loop : ∀ (n i : Nat) (y : Dart), i + n = s.2.length + 1 → LX G 98 sg98 Tryz.f98 sh98_0 (seg Tryz.prog 98 0) (((i : Int), ()), ((s, ()), ((y, ()), (((((0 : Int), (0 : Int)), (0 : Int)), ()), ()))), ()) = some ((res s.1 s.2 n y, ()), ()) := by
    intro n
    induction n with
    | zero =>
      intro i y hi
      refine lx_of (j := 0) (by kernel_rfl) ((nl98_0 _ _ _).trans ?_)
      have h1 : decide ((i : Int) ≤ ((s.2.length : Nat) : Int)) = false := by simp; omega
      simp only [h1]; rfl
    | succ n ih =>
      intro i y hi
      refine lx_of (j := 0) (by kernel_rfl) ((nl98_0 _ _ _).trans ?_)
      have h1 : decide ((i : Int) ≤ ((s.2.length : Nat) : Int)) = true := by simp; omega
      have hw : IntKind.wrap .i64 ((i : Int) + 1) = ((i + 1 : Nat) : Int) := by rw [wrap_small (by omega) (by omega)]; rfl
      simp only [h1, hw]
      refine bind_of (fx20 hG s.1 y (by omega) (fun w hw => by have := hs.r w hw; omega)) ?_
      rw [show (orV zI (atD s.1 y)).2.1 = (atD s.1 y).isSome from orV_snd _ _, res]
      cases ha : (atD s.1 y).isSome
      · simp only [Bool.false_eq_true, if_false]
        refine bind_of (fx101 (hG _ _) s.2 y (by omega)) ?_
        cases hf : findG s.2 y with
        | none => rfl
        | some z => exact ih (i + 1) z (by omega)
      · rfl
  exact loop (s.2.length + 1) 0 x (by omega)

def zC : Cor := (zI, zD)
def cornerD (s : StateT) (c : Cor) (v : Vert) : Dart := if resolve s c.2 ∈ v.2.1 then resolve s c.2 else zD
def cornerR (s : StateT) (c : Cor) : Cor × (Int × Unit) := match vertex s.1 c.1 with
  | none => (zC, (13, ()))
  | some v => ((c.1, cornerD s c v), (0, ()))
theorem fx70 (hG : ∀ f g, G f g = none) (s : StateT) (c : Cor) (hs : Sm s.1) (hg : s.2.length ≤ 50000000) : FX G 70 sg70 ((s, c, ()), ()) = some (cornerR s c, ()) := by
  have hv := hs.v
  refine fx_of (fn := Tryz.f70) (hG _ _) (by kernel_rfl) (by kernel_rfl) ((nf70 _ _ _).trans ?_)
  refine bind_of (fx18 (hG _ _) s.1 c.1 (by omega)) ?_
  unfold cornerR
  cases hf : vertex s.1 c.1 with
  | none => rfl
  | some v =>
    have hr : v.2.1.length ≤ 50000000 := hs.r v (List.mem_of_find?_eq_some hf)
    refine bind_of (fx98 hG s c.2 hs hg) ?_
    refine bind_of (fx24 (hG _ _) v.2.1 (resolve s c.2) (by omega)) ?_
    by_cases hm : resolve s c.2 ∈ v.2.1
    · have h1 : decide (idx (resolve s c.2) v.2.1 0 < 0) = false := decide_eq_false (fun h => idx_neg.1 h hm)
      have h2 : cornerD s c v = resolve s c.2 := if_pos hm
      simp only [h1]
      exact congrArg (fun z : Dart => some (((c.1, z), ((0 : Int), ())), ())) h2.symm
    · have h1 : decide (idx (resolve s c.2) v.2.1 0 < 0) = true := decide_eq_true (idx_neg.2 hm)
      have h2 : cornerD s c v = zD := if_neg hm
      simp only [h1]
      exact congrArg (fun z : Dart => some (((c.1, z), ((0 : Int), ())), ())) h2.symm

/-! ### Faces -/
def otherD (x : Dart) : Dart := (x.1, IntKind.wrap .i64 (1 - x.2))
def sigma (d : Diag) (x : Dart) : Option Dart := match atD d x with
  | none => none
  | some a => stepD (ringAt d a) x 1
theorem fx78 (hG : ∀ f g, G f g = none) (d : Diag) (x : Dart) (hs : Sm d) : FX G 78 sg78 ((d, x, ()), ()) = some (orZ (sigma d x), ()) := by
  have hv := hs.v
  refine fx_of (fn := Tryz.f78) (hG _ _) (by kernel_rfl) (by kernel_rfl) ((nf78 _ _ _).trans ?_)
  refine bind_of (fx20 hG d x (by omega) (fun w hw => by have := hs.r w hw; omega)) ?_
  unfold sigma
  cases ha : atD d x with
  | none => rfl
  | some a =>
    have hr := ringAt_le hs a
    refine bind_of (fx18 (hG _ _) d a (by omega)) ?_
    rw [show (orV zV (vertex d a)).1 = (vertex d a).getD zV from orV_fst _ _]
    exact bind_of (fx104 hG (ringAt d a) x (by omega)) rfl
def phi (d : Diag) (x : Dart) : Option Dart := if (atD d x).isSome then sigma d (otherD x) else none
theorem fx54 (hG : ∀ f g, G f g = none) (d : Diag) (x : Dart) (hs : Sm d) : FX G 54 sg54 ((d, x, ()), ()) = some (orZ (phi d x), ()) := by
  have hv := hs.v
  refine fx_of (fn := Tryz.f54) (hG _ _) (by kernel_rfl) (by kernel_rfl) ((nf54 _ _ _).trans ?_)
  refine bind_of (fx20 hG d x (by omega) (fun w hw => by have := hs.r w hw; omega)) ?_
  rw [show (orV zI (atD d x)).2.1 = (atD d x).isSome from orV_snd _ _]
  unfold phi
  cases ha : (atD d x).isSome
  · rfl
  · refine bind_of (fx23 (hG _ _) x) ?_
    exact bind_of (fx78 hG d (otherD x) hs) rfl
def traceF (d : Diag) (x : Dart) : Nat → Dart → List Dart → List Dart
  | 0, _, out => out
  | n + 1, y, out => if y = x then out else traceF d x n ((phi d y).getD zD) (out ++ [y])
def traceR (d : Diag) (x : Dart) : List Dart := match phi d x with
  | none => []
  | some y => traceF d x 81 y [x]
theorem fx22 (hG : ∀ f g, G f g = none) (d : Diag) (x : Dart) (hs : Sm d) : FX G 22 sg22 ((d, x, ()), ()) = some ((traceR d x, ()), ()) := by
  refine fx_of (fn := Tryz.f22) (hG _ _) (by kernel_rfl) (by kernel_rfl) ((nf22 _ _ _).trans ?_)
  refine bind_of (fx54 hG d x hs) ?_
  unfold traceR
  cases hp : phi d x with
  | none => rfl
  | some y =>
    have h5 : fitsN ([] : List Dart).length [x].length = true := fits (by simp)
    have loop : ∀ (n : Nat) (y : Dart) (out : List Dart), out.length + n = 82 → LX G 22 sg22 Tryz.f22 sh22_0 (seg Tryz.prog 22 0) ((), ((d, ()), ((x, ()), ((y, ()), ()))), (out, ())) = some ((traceF d x n y out, ()), ()) := by
      intro n
      induction n with
      | zero =>
        intro y out ho
        refine lx_of (j := 0) (by kernel_rfl) ((nl22_0 _ _ _).trans ?_)
        have h1 : decide (((out.length : Nat) : Int) < 82) = false := by simp; omega
        simp only [beqD, h1]
        by_cases hy : y = x
        · have d1 := decide_eq_true hy
          simp only [d1]; rfl
        · have d1 := decide_eq_false hy
          simp only [d1]; rfl
      | succ n ih =>
        intro y out ho
        refine lx_of (j := 0) (by kernel_rfl) ((nl22_0 _ _ _).trans ?_)
        have h1 : decide (((out.length : Nat) : Int) < 82) = true := by simp; omega
        have h6 : fitsN out.length [y].length = true := fits (by simp; omega)
        simp only [beqD, h1, h6]
        rw [traceF]
        by_cases hy : y = x
        · have d1 := decide_eq_true hy
          rw [if_pos hy]
          simp only [d1]; rfl
        · have d1 := decide_eq_false hy
          rw [if_neg hy]
          simp only [d1]
          refine bind_of (fx54 hG d y hs) ?_
          rw [show (orZ (phi d y)).1 = (phi d y).getD zD from orZ_fst _]
          exact ih ((phi d y).getD zD) (out ++ [y]) (by simp; omega)
    exact loop 81 y [x] (by simp)
theorem traceF_le (d : Diag) (x : Dart) : ∀ (n : Nat) (y : Dart) (out : List Dart), (traceF d x n y out).length ≤ out.length + n
  | 0, _, out => Nat.le_refl _
  | n + 1, y, out => by
    unfold traceF
    split
    · omega
    · have := traceF_le d x n ((phi d y).getD zD) (out ++ [y]); simp at this; omega
theorem traceR_le (d : Diag) (x : Dart) : (traceR d x).length ≤ 82 := by
  unfold traceR
  cases phi d x with
  | none => simp
  | some y => have := traceF_le d x 81 y [x]; simpa using this
def dartsOf : List EdgeT → List Dart
  | [] => []
  | e :: r => (e.1, 0) :: (e.1, 1) :: dartsOf r
theorem dartsOf_length : ∀ l : List EdgeT, (dartsOf l).length = 2 * l.length
  | [] => rfl
  | e :: r => by simp [dartsOf, dartsOf_length r]; omega
theorem fx59 (hG : G 59 sg59 = none) (d : Diag) (hs : Sm d) : FX G 59 sg59 ((d, ()), ()) = some ((dartsOf d.2, ()), ()) := by
  have he := hs.e
  refine fx_of (fn := Tryz.f59) hG (by kernel_rfl) (by kernel_rfl) ((nf59 _ _ _).trans ?_)
  have key := loop_list d.2 (fun i (s : List Dart) => LX G 59 sg59 Tryz.f59 sh59_0 (seg Tryz.prog 59 0) ((i, ()), (((d, ()), ()), (s, ())))) (fun (r : List EdgeT) (s : List Dart) => ((s ++ dartsOf r, ()), ())) (fun n s => s.length + 2 * n ≤ 2 * d.2.length)
    (fun s _ => by
      refine lx_of (j := 0) (by kernel_rfl) ((nl59_0 _ _ _).trans ?_)
      simp only [lt_end, dartsOf, List.append_nil]; rfl)
    (fun i y r s hi hx hrr hs ih => by
      refine lx_of (j := 0) (by kernel_rfl) ((nl59_0 _ _ _).trans ?_)
      have h6 : fitsN s.length [((y.1, (0 : Int)) : Dart), (y.1, (1 : Int))].length = true := fits (by simp; omega)
      simp only [lt_up hi, getI_of hx, Option.bind_some, h6, wrap_up hi (show d.2.length ≤ 1073741824 by omega)]
      have := ih (s ++ [(y.1, 0), (y.1, 1)]) (by simp; omega)
      refine this.trans (congrArg (fun l : List Dart => some ((l, ()), ())) ?_)
      simp [dartsOf])
    [] (by simp)
  exact key
def facesGo (d : Diag) : List Dart → List (List Dart) → List Dart → List (List Dart)
  | [], out, _ => out
  | x :: r, out, told => if x ∈ told then facesGo d r out told else facesGo d r (out ++ [traceR d x]) (told ++ traceR d x)
def faces (d : Diag) : List (List Dart) := facesGo d (dartsOf d.2) [] []
theorem fx31 (hG : ∀ f g, G f g = none) (d : Diag) (hs : Sm d) (he : d.2.length ≤ 5000000) : FX G 31 sg31 ((d, ()), ()) = some ((faces d, ()), ()) := by
  refine fx_of (fn := Tryz.f31) (hG _ _) (by kernel_rfl) (by kernel_rfl) ((nf31 _ _ _).trans ?_)
  refine bind_of (fx59 (hG _ _) d hs) ?_
  have hdl := dartsOf_length d.2
  unfold faces
  generalize dartsOf d.2 = ds at *
  have key := loop_list ds (fun i (s : List (List Dart) × List Dart) => LX G 31 sg31 Tryz.f31 sh31_0 (seg Tryz.prog 31 0) ((i, ()), (((d, ()), ()), (s.1, (s.2, (ds, ())))))) (fun (r : List Dart) (s : List (List Dart) × List Dart) => ((facesGo d r s.1 s.2, ()), ()))
    (fun n s => s.1.length + n ≤ ds.length ∧ s.2.length + 82 * n ≤ 82 * ds.length)
    (fun s _ => by
      refine lx_of (j := 0) (by kernel_rfl) ((nl31_0 _ _ _).trans ?_)
      simp only [lt_end]; rfl)
    (fun i y r s hi hx hrr hs' ih => by
      obtain ⟨out, told⟩ := s
      obtain ⟨b1, b2⟩ := hs'
      simp only at b1 b2
      refine lx_of (j := 0) (by kernel_rfl) ((nl31_0 _ _ _).trans ?_)
      simp only [lt_up hi, ge_up, Bool.and_self, Int.toNat_natCast, hx, Option.bind_some, wrap_up hi (show ds.length ≤ 1073741824 by omega)]
      refine bind_of (fx24 (hG _ _) told y (by omega)) ?_
      rw [facesGo]
      by_cases hm : y ∈ told
      · have d1 : decide (idx y told 0 ≥ 0) = true := decide_eq_true (by obtain ⟨k, h, _⟩ := idx_some hm; omega)
        rw [if_pos hm]
        simp only [d1]
        exact ih (out, told) ⟨by simp only; omega, by simp only; omega⟩
      · have d1 : decide (idx y told 0 ≥ 0) = false := decide_eq_false (by have := idx_neg.2 hm; omega)
        rw [if_neg hm]
        simp only [d1]
        refine bind_of (fx22 hG d y hs) ?_
        have htl := traceR_le d y
        have h6 : fitsN out.length [traceR d y].length = true := fits (by simp; omega)
        have h7 : fitsN told.length (traceR d y).length = true := fits (by omega)
        simp only [h6, h7]
        exact ih (out ++ [traceR d y], told ++ traceR d y) ⟨by simp; omega, by simp; omega⟩)
    ([], []) ⟨by simp, by simp⟩
  exact key
end Go.Vs
