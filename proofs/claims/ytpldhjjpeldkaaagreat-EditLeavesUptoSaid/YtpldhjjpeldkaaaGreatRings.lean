/- What the program computes at edges and rings, written plainly. -/
import Derived.Test.YtpldhjjpeldkaaaGreatPlaces

set_option linter.unusedVariables false
set_option linter.unusedSimpArgs false
namespace Go.Vs
open Go.Proofs
variable {G : (f : FuncId) → (g : Sig) → Option (g.A → Option g.B)}

theorem get_at {s : ByteArray} {i : Nat} {c : UInt8} (h : s.data.toList[i]? = some c) : s.get! i = c := by
  have hi : i < s.data.size := by have := (List.getElem?_eq_some_iff.1 h).1; simpa using this
  have h2 := (List.getElem?_eq_some_iff.1 h).2
  show s.data[i]! = c
  rw [getElem!_pos s.data i hi, ← h2]; simp
theorem decode_lt {s : ByteArray} {i : Nat} (h : (s.get! i).toNat < 128) : Utf8.decode s i = ((s.get! i).toNat, 1) := by
  unfold Utf8.decode
  simp only [Nat.add_zero]
  rw [if_pos h]
theorem decode_ge {s : ByteArray} {i : Nat} (h : ¬ (s.get! i).toNat < 128) : 128 ≤ (Utf8.decode s i).1 := by
  unfold Utf8.decode
  simp only [Nat.add_zero]
  rw [if_neg h]
  repeat' split
  all_goals first | (simp_all only [Bool.and_eq_true, decide_eq_true_eq]; omega) | decide | omega
theorem lx88 (hG : G 88 sg88 = none) (s : ByteArray) (hs : s.size ≤ 100000000) : ∀ (n i : Nat), i + n = s.size →
    LX G 88 sg88 Tryz.f88 sh88_0 (seg Tryz.prog 88 0) ((s, ()), ((), ((s, i), ()))) = some ((((s.data.toList.drop i).all mayC8 && decide (s.size ≤ 16), ()), ()) : (Bool × Unit) × Unit) := by
  have hl : s.data.toList.length = s.size := by simp
  intro n
  induction n with
  | zero =>
    intro i hi
    refine lx_of (j := 0) (by kernel_rfl) ((nl88_0 _ _ _).trans ?_)
    refine cond_F (decide_eq_false (show ¬ (i < s.size) by omega)) ?_
    refine congrArg (fun b : Bool => some ((b, ()), ())) ?_
    rw [List.drop_eq_nil_of_le (by omega), List.all_nil, Bool.true_and, Bool.eq_iff_iff]; simp; omega
  | succ n ih =>
    intro i hi
    have hlt : i < s.data.toList.length := by omega
    have hx : s.data.toList[i]? = some s.data.toList[i] := List.getElem?_eq_getElem hlt
    generalize s.data.toList[i] = c at hx
    have hd : s.data.toList.drop i = c :: s.data.toList.drop (i + 1) := by
      rw [List.drop_eq_getElem_cons hlt]; rw [List.getElem?_eq_getElem hlt] at hx; cases hx; rfl
    have hg := get_at hx
    refine lx_of (j := 0) (by kernel_rfl) ((nl88_0 _ _ _).trans ?_)
    refine cond_T (decide_eq_true (show i < s.size by omega)) ?_
    show cond (decide (runeAt s i < 32)) _ (cond (decide (runeAt s i > 126)) _ (LX G 88 sg88 Tryz.f88 sh88_0 (seg Tryz.prog 88 0) ((s, ()), ((), ((s, i + runeW s i), ()))))) = _
    rw [hd, List.all_cons]
    by_cases h1 : c.toNat < 128
    · have hr : Utf8.decode s i = (c.toNat, 1) := by rw [decode_lt (by rw [hg]; exact h1), hg]
      have hr1 : runeAt s i = (c.toNat : Int) := by unfold runeAt; rw [hr]
      have hr2 : runeW s i = 1 := by unfold runeW; rw [hr]
      rw [hr1, hr2]
      by_cases h2 : c.toNat < 32
      · refine cond_T (decide_eq_true (by omega)) ?_
        have : mayC8 c = false := by unfold mayC8; simp; omega
        rw [this]; rfl
      refine cond_F (decide_eq_false (by omega)) ?_
      by_cases h3 : 126 < c.toNat
      · refine cond_T (decide_eq_true (by omega)) ?_
        have : mayC8 c = false := by unfold mayC8; simp; omega
        rw [this]; rfl
      refine cond_F (decide_eq_false (by omega)) ?_
      have : mayC8 c = true := by unfold mayC8; simp; omega
      rw [this, Bool.true_and]
      exact ih (i + 1) (by omega)
    · have h2 := decode_ge (s := s) (i := i) (by rw [hg]; exact h1)
      have hr1 : 128 ≤ runeAt s i := by unfold runeAt; omega
      refine cond_F (decide_eq_false (by omega)) (cond_T (decide_eq_true (by omega)) ?_)
      have : mayC8 c = false := by unfold mayC8; simp; omega
      rw [this]; rfl
theorem fx88 (hG : G 88 sg88 = none) (s : ByteArray) (hs : s.size ≤ 100000000) : FX G 88 sg88 ((s, ()), ()) = some ((mayL s, ()), ()) := by
  refine fx_of (fn := Tryz.f88) hG (by kernel_rfl) (by kernel_rfl) ((nf88 _ _ _).trans ?_)
  have := lx88 hG s hs s.size 0 (by omega)
  rw [List.drop_zero] at this
  exact this
theorem fx89 (hG : G 89 sg89 = none) (n : Int) : FX G 89 sg89 ((n, ()), ()) = some ((mayA n, ()), ()) := by
  refine fx_of (fn := Tryz.f89) hG (by kernel_rfl) (by kernel_rfl) ((nf89 _ _ _).trans ?_)
  show (cond (decide (n ≥ -1099511627776)) (some ((decide (n ≤ 1099511627776), ()), ())) (some ((false, ()), ())) : Option ((Bool × Unit) × Unit)) = some ((mayA n, ()), ())
  unfold mayA
  by_cases h1 : -1099511627776 ≤ n <;> simp [h1]

/-! ### Bits -/
def inR (n : Int) : Prop := -9223372036854775808 ≤ n ∧ n < 9223372036854775808
theorem wrap_u (x : BitVec 64) : IntKind.wrap .i64 ((x.toNat : Nat) : Int) = x.toInt := by
  unfold IntKind.wrap
  simp only [IntKind.bits, IntKind.signed]
  have h := x.isLt
  have h2 := BitVec.toInt_eq_toNat_cond x
  rw [h2]
  simp
  split <;> split <;> omega
theorem ofInt_toInt {n : Int} (h : inR n) : (BitVec.ofInt 64 n).toInt = n := by
  unfold inR at h
  rw [BitVec.toInt_ofInt]
  exact Int.bmod_eq_of_le (by omega) (by omega)
theorem andNot3 {n : Int} (h : inR n) : (bitsI .andNot .i64 n 3 == (0 : Int)) = decide (0 ≤ n ∧ n ≤ 3) := by
  have e : bitsI .andNot .i64 n 3 = (BitVec.ofInt 64 n &&& ~~~(BitVec.ofInt 64 3)).toInt := by unfold bitsI; exact wrap_u _
  rw [e, Bool.eq_iff_iff]
  simp only [beq_iff_eq, decide_eq_true_eq]
  generalize hx : BitVec.ofInt 64 n = x
  have hn := ofInt_toInt h
  rw [hx] at hn
  have h1 : (x &&& ~~~(BitVec.ofInt 64 3)).toInt = 0 ↔ (x &&& ~~~(BitVec.ofInt 64 3)) = 0#64 := by
    constructor
    · intro h; exact BitVec.eq_of_toInt_eq (by rw [h]; rfl)
    · intro h; rw [h]; rfl
  rw [h1, ← hn]
  constructor
  · intro h
    have h2 : x = x &&& 3#64 := by
      have h3 : x = (x &&& ~~~(BitVec.ofInt 64 3)) ||| (x &&& 3#64) := by
        ext i hi
        simp only [BitVec.getElem_or, BitVec.getElem_and, BitVec.getElem_not]
        have : (BitVec.ofInt 64 3) = 3#64 := rfl
        rw [this]
        cases x[i] <;> cases (3#64)[i] <;> rfl
      rw [h] at h3
      simpa using h3
    have h4 : x.toNat ≤ 3 := by
      rw [h2, BitVec.toNat_and]
      exact Nat.and_le_right
    rw [BitVec.toInt_eq_toNat_cond]
    split <;> omega
  · intro h
    have h4 : x.toNat ≤ 3 := by
      rw [BitVec.toInt_eq_toNat_cond] at h
      have := x.isLt
      split at h <;> omega
    have h5 : x = 0#64 ∨ x = 1#64 ∨ x = 2#64 ∨ x = 3#64 := by
      have : x.toNat = 0 ∨ x.toNat = 1 ∨ x.toNat = 2 ∨ x.toNat = 3 := by omega
      rcases this with h | h | h | h
      · exact .inl (BitVec.eq_of_toNat_eq (by rw [h]; rfl))
      · exact .inr (.inl (BitVec.eq_of_toNat_eq (by rw [h]; rfl)))
      · exact .inr (.inr (.inl (BitVec.eq_of_toNat_eq (by rw [h]; rfl))))
      · exact .inr (.inr (.inr (BitVec.eq_of_toNat_eq (by rw [h]; rfl))))
    rcases h5 with rfl | rfl | rfl | rfl <;> decide
theorem andNot1 {n : Int} (h : inR n) : (bitsI .andNot .i64 n 1 == (0 : Int)) = decide (n = 0 ∨ n = 1) := by
  have e : bitsI .andNot .i64 n 1 = (BitVec.ofInt 64 n &&& ~~~(BitVec.ofInt 64 1)).toInt := by unfold bitsI; exact wrap_u _
  rw [e, Bool.eq_iff_iff]
  simp only [beq_iff_eq, decide_eq_true_eq]
  generalize hx : BitVec.ofInt 64 n = x
  have hn := ofInt_toInt h
  rw [hx] at hn
  have h1 : (x &&& ~~~(BitVec.ofInt 64 1)).toInt = 0 ↔ (x &&& ~~~(BitVec.ofInt 64 1)) = 0#64 := by
    constructor
    · intro h; exact BitVec.eq_of_toInt_eq (by rw [h]; rfl)
    · intro h; rw [h]; rfl
  rw [h1, ← hn]
  constructor
  · intro h
    have h2 : x = x &&& 1#64 := by
      have h3 : x = (x &&& ~~~(BitVec.ofInt 64 1)) ||| (x &&& 1#64) := by
        ext i hi
        simp only [BitVec.getElem_or, BitVec.getElem_and, BitVec.getElem_not]
        have : (BitVec.ofInt 64 1) = 1#64 := rfl
        rw [this]
        cases x[i] <;> cases (1#64)[i] <;> rfl
      rw [h] at h3
      simpa using h3
    have h4 : x.toNat ≤ 1 := by
      rw [h2, BitVec.toNat_and]
      exact Nat.and_le_right
    rw [BitVec.toInt_eq_toNat_cond]
    split <;> omega
  · intro h
    have h4 : x.toNat ≤ 1 := by
      rw [BitVec.toInt_eq_toNat_cond] at h
      have := x.isLt
      split at h <;> omega
    have h5 : x = 0#64 ∨ x = 1#64 := by
      have : x.toNat = 0 ∨ x.toNat = 1 := by omega
      rcases this with h | h
      · exact .inl (BitVec.eq_of_toNat_eq (by rw [h]; rfl))
      · exact .inr (BitVec.eq_of_toNat_eq (by rw [h]; rfl))
    rcases h5 with rfl | rfl <;> decide

/-! ### Operations -/
theorem fx106 (hG : ∀ f g, G f g = none) (d : Dart) (h : inR d.2) : FX G 106 sg106 ((d, ()), ()) = some ((mayD d, ()), ()) := by
  refine fx_of (fn := Tryz.f106) (hG _ _) (by kernel_rfl) (by kernel_rfl) ((nf106 _ _ _).trans ?_)
  refine bind_of (fx86 (hG _ _) d.1) ?_
  unfold mayD
  cases mayI d.1
  · rfl
  · exact cond_T rfl (congrArg (fun b : Bool => some ((b, ()), ())) (andNot1 h))
theorem fx87 (hG : ∀ f g, G f g = none) (c : Cor) (h : inR c.2.2) : FX G 87 sg87 ((c, ()), ()) = some ((mayC c, ()), ()) := by
  refine fx_of (fn := Tryz.f87) (hG _ _) (by kernel_rfl) (by kernel_rfl) ((nf87 _ _ _).trans ?_)
  refine bind_of (fx86 (hG _ _) c.1) ?_
  unfold mayC
  cases mayI c.1
  · rfl
  refine cond_T rfl ?_
  have hb : (((c.2.1.1 == (0 : Int)) && (c.2.1.2 == (0 : Int))) && (c.2.2 == (0 : Int))) = decide (c.2 = zD) := beqD c.2 zD
  by_cases hz : c.2 = zD
  · refine cond_T (hb.trans (decide_eq_true hz)) ?_
    rw [decide_eq_true hz, Bool.or_true]; rfl
  · refine cond_F (hb.trans (decide_eq_false hz)) ?_
    refine bind_of (fx106 hG c.2 h) ?_
    rw [decide_eq_false hz, Bool.or_false]; rfl
/-- Its numbers are of 64 bits, its text is no giant. -/
structure Fit (o : OpT) : Prop where
  a : inR (oA o).2.2
  b : inR (oB o).2.2
  n : inR (oN o)
  t : textOk o
def onlyR (o : OpT) : OpT :=
  if o.1 = 6 then (o.1, (oId o, (zI, (oOther o, (zC, (zC, (false, (e0, 0))))))))
  else if o.1 = 3 then (o.1, (oId o, (zI, (zI, (oA o, (oB o, (false, (e0, 0))))))))
  else if o.1 = 5 then (o.1, (oId o, (oNew o, (oOther o, (zC, (zC, (false, (e0, oN o))))))))
  else if o.1 = 7 then (o.1, (oId o, (zI, (zI, (zC, (zC, (oOfE o, (oText o, 0))))))))
  else if o.1 = 8 then (o.1, (oId o, (zI, (zI, (zC, (zC, (oOfE o, (e0, oN o))))))))
  else (o.1, (oId o, (zI, (zI, (zC, (zC, (false, (e0, 0))))))))
def badR (o : OpT) : Int :=
  if o.1 = 6 then (if mayI (oId o) = true ∧ mayI (oOther o) = true then 0 else 1)
  else if o.1 = 3 then (if mayI (oId o) = true ∧ mayC (oA o) = true ∧ mayC (oB o) = true then 0 else 1)
  else if o.1 = 5 then (if mayI (oId o) = true ∧ mayI (oNew o) = true ∧ mayI (oOther o) = true ∧ 0 ≤ oN o ∧ oN o ≤ 3 then 0 else 1)
  else if o.1 = 7 then (if mayI (oId o) = true then (if mayL (oText o) = true then 0 else 4) else 1)
  else if o.1 = 8 then (if mayI (oId o) = true ∧ mayA (oN o) = true then 0 else 1)
  else if o.1 = 1 ∨ o.1 = 2 ∨ o.1 = 4 then (if mayI (oId o) = true then 0 else 1)
  else 1
theorem keq {o : OpT} {k : Int} (h : o.1 = k) : (o.1 == k) = true := by simp [h]
theorem kne {o : OpT} {k : Int} (h : ¬ o.1 = k) : (o.1 == k) = false := by simp [h]
theorem fx65 (hG : ∀ f g, G f g = none) (o : OpT) (hf : Fit o) : FX G 65 sg65 ((o, ()), ()) = some ((onlyR o, (badR o, ())), ()) := by
  refine fx_of (fn := Tryz.f65) (hG _ _) (by kernel_rfl) (by kernel_rfl) ((nf65 _ _ _).trans ?_)
  refine bind_of (fx86 (hG _ _) (oId o)) ?_
  unfold onlyR badR
  by_cases h1 : o.1 = 1
  · refine cond_T (keq h1) (cond_T (keq h1) ?_)
    rw [if_neg (by omega), if_neg (by omega), if_neg (by omega), if_neg (by omega), if_neg (by omega), if_neg (by omega), if_neg (by omega), if_neg (by omega), if_neg (by omega), if_neg (by omega), if_pos (by omega)]
    cases mayI (oId o) <;> rfl
  refine cond_F (kne h1) ?_
  by_cases h2 : o.1 = 2
  · refine cond_T (keq h2) (cond_T (keq h2) ?_)
    rw [if_neg (by omega), if_neg (by omega), if_neg (by omega), if_neg (by omega), if_neg (by omega), if_neg (by omega), if_neg (by omega), if_neg (by omega), if_neg (by omega), if_neg (by omega), if_pos (by omega)]
    cases mayI (oId o) <;> rfl
  refine cond_F (kne h2) ?_
  by_cases h4 : o.1 = 4
  · refine cond_T (keq h4) ?_
    rw [if_neg (by omega), if_neg (by omega), if_neg (by omega), if_neg (by omega), if_neg (by omega), if_neg (by omega), if_neg (by omega), if_neg (by omega), if_neg (by omega), if_neg (by omega), if_pos (by omega)]
    cases mayI (oId o) <;> rfl
  refine cond_F (kne h4) ?_
  by_cases h6 : o.1 = 6
  · refine cond_T (keq h6) ?_
    rw [if_pos h6, if_pos h6]
    cases mayI (oId o)
    · rfl
    refine cond_T rfl (bind_of (fx86 (hG _ _) (oOther o)) ?_)
    cases mayI (oOther o) <;> rfl
  refine cond_F (kne h6) ?_
  rw [if_neg h6, if_neg h6]
  by_cases h3 : o.1 = 3
  · refine cond_T (keq h3) ?_
    rw [if_pos h3, if_pos h3]
    cases mayI (oId o)
    · rfl
    refine cond_T rfl (bind_of (fx87 hG (oA o) hf.a) ?_)
    cases mayC (oA o)
    · rfl
    refine cond_T rfl (bind_of (fx87 hG (oB o) hf.b) ?_)
    cases mayC (oB o) <;> rfl
  refine cond_F (kne h3) ?_
  rw [if_neg h3, if_neg h3]
  by_cases h5 : o.1 = 5
  · refine cond_T (keq h5) ?_
    rw [if_pos h5, if_pos h5]
    cases mayI (oId o)
    · rfl
    refine cond_T rfl (bind_of (fx86 (hG _ _) (oNew o)) ?_)
    cases mayI (oNew o)
    · rfl
    refine cond_T rfl (bind_of (fx86 (hG _ _) (oOther o)) ?_)
    cases mayI (oOther o)
    · rfl
    refine cond_T rfl (cond_not_of (andNot3 hf.n) ?_)
    by_cases h : 0 ≤ oN o ∧ oN o ≤ 3
    · rw [decide_eq_true h, if_pos ⟨rfl, rfl, rfl, h⟩]; rfl
    · rw [decide_eq_false h, if_neg (fun k => h k.2.2.2)]; rfl
  refine cond_F (kne h5) ?_
  rw [if_neg h5, if_neg h5]
  by_cases h7 : o.1 = 7
  · refine cond_T (keq h7) ?_
    rw [if_pos h7, if_pos h7]
    refine bind_of (fx88 (hG _ _) (oText o) hf.t) ?_
    cases mayL (oText o) <;> cases mayI (oId o) <;> rfl
  refine cond_F (kne h7) ?_
  rw [if_neg h7, if_neg h7]
  by_cases h8 : o.1 = 8
  · refine cond_T (keq h8) ?_
    rw [if_pos h8, if_pos h8]
    cases mayI (oId o)
    · rfl
    refine cond_T rfl (bind_of (fx89 (hG _ _) (oN o)) ?_)
    cases mayA (oN o) <;> rfl
  refine cond_F (kne h8) ?_
  rw [if_neg h8, if_neg h8, if_neg (by omega)]; rfl
theorem only_rest (o : OpT) (h1 : 1 ≤ o.1) (h8 : o.1 ≤ 8) : eqOp (onlyR o) o = eqOp (restR o) zOp := by
  rw [Bool.eq_iff_iff, eqOp_iff, eqOp_iff]
  obtain ⟨k, i, n, m, ⟨a1, a2⟩, ⟨b1, b2⟩, f, t, q⟩ := o
  simp only at h1 h8
  unfold onlyR restR zOp
  have : k = 1 ∨ k = 2 ∨ k = 3 ∨ k = 4 ∨ k = 5 ∨ k = 6 ∨ k = 7 ∨ k = 8 := by omega
  rcases this with rfl | rfl | rfl | rfl | rfl | rfl | rfl | rfl <;> simp only [Int.reduceEq, if_true, if_false] <;> constructor <;> intro h <;> simp only [zC, Prod.mk.injEq, true_and, and_true] at h ⊢ <;> grind
theorem fx43 (hG : ∀ f g, G f g = none) (o : OpT) (hf : Fit o) : FX G 43 sg43 ((o, ()), ()) = some ((mayOp o, ()), ()) := by
  refine fx_of (fn := Tryz.f43) (hG _ _) (by kernel_rfl) (by kernel_rfl) ((nf43 _ _ _).trans ?_)
  refine bind_of (fx65 hG o hf) ?_
  refine cond_not_of (b := eqOp (onlyR o) o) rfl ?_
  unfold mayOp
  by_cases h1 : o.1 < 1
  · rw [if_pos h1]
    have : badR o = 1 := by unfold badR; rw [if_neg (by omega), if_neg (by omega), if_neg (by omega), if_neg (by omega), if_neg (by omega), if_neg (by omega)]
    rw [this]; cases eqOp (onlyR o) o <;> rfl
  rw [if_neg h1]
  by_cases h8 : 8 < o.1
  · rw [if_pos h8]
    have : badR o = 1 := by unfold badR; rw [if_neg (by omega), if_neg (by omega), if_neg (by omega), if_neg (by omega), if_neg (by omega), if_neg (by omega)]
    rw [this]; cases eqOp (onlyR o) o <;> rfl
  rw [if_neg h8, only_rest o (by omega) (by omega)]
  have hk : o.1 = 1 ∨ o.1 = 2 ∨ o.1 = 3 ∨ o.1 = 4 ∨ o.1 = 5 ∨ o.1 = 6 ∨ o.1 = 7 ∨ o.1 = 8 := by omega
  by_cases hm : mayI (oId o) = true
  case neg =>
    have hb : badR o = 1 := by
      unfold badR
      rcases hk with h | h | h | h | h | h | h | h <;> simp [h, hm]
    rw [if_pos (by simpa using hm), hb]; cases eqOp (restR o) zOp <;> rfl
  rw [if_neg (by simp [hm])]
  cases eqOp (restR o) zOp
  · rw [if_pos rfl]; rfl
  rw [if_neg (by simp)]
  refine cond_F rfl ?_
  refine congrArg (fun n : Int => some ((n, ()), ())) ?_
  unfold badR
  rcases hk with h | h | h | h | h | h | h | h <;> simp [h, hm]
/-- The first of them that may not be. -/
theorem fx58 (hG : ∀ f g, G f g = none) (l : List OpT) (hl : l.length ≤ 1073741824) (hf : ∀ o ∈ l, Fit o) : FX G 58 sg58 ((l, ()), ()) = some ((mayEdit l, ()), ()) := by
  refine fx_of (fn := Tryz.f58) (hG _ _) (by kernel_rfl) (by kernel_rfl) ((nf58 _ _ _).trans ?_)
  unfold mayEdit
  by_cases h0 : l.length = 0
  · refine cond_T (show (((l.length : Nat) : Int) == 0) = true by simp [h0]) ?_
    rw [if_neg (by omega)]; rfl
  refine cond_F (show (((l.length : Nat) : Int) == 0) = false by rw [beq_eq_false_iff_ne]; omega) ?_
  by_cases h6 : 6 < l.length
  · refine cond_T (decide_eq_true (show ((l.length : Nat) : Int) > 6 by omega)) ?_
    rw [if_neg (by omega)]; rfl
  refine cond_F (decide_eq_false (show ¬ ((l.length : Nat) : Int) > 6 by omega)) ?_
  rw [if_pos (by omega)]
  have loop : ∀ (n i : Nat), i + n = l.length → LX G 58 sg58 Tryz.f58 sh58_0 (seg Tryz.prog 58 0) ((l, (((l.length : Nat) : Int), ((i : Int), ()))), ((), ())) = some ((firstBad (l.drop i), ()), ()) := by
    intro n
    induction n with
    | zero =>
      intro i hi
      refine lx_of (j := 0) (by kernel_rfl) ((nl58_0 _ _ _).trans ?_)
      refine cond_F (decide_eq_false (show ¬ ((i : Int) < ((l.length : Nat) : Int)) by omega)) ?_
      rw [List.drop_eq_nil_of_le (by omega)]; rfl
    | succ n ih =>
      intro i hi
      have hlt : i < l.length := by omega
      refine lx_of (j := 0) (by kernel_rfl) ((nl58_0 _ _ _).trans ?_)
      refine cond_T (lt_up hlt) (bind_of (getI_of (List.getElem?_eq_getElem hlt)) ?_)
      refine bind_of (fx43 hG l[i] (hf _ (List.getElem_mem hlt))) ?_
      rw [List.drop_eq_getElem_cons hlt, firstBad]
      by_cases hz : mayOp l[i] = 0
      · rw [if_neg (by simp [hz])]
        refine cond_F (show (mayOp l[i] != 0) = false by simp [hz]) ?_
        rw [wrap_up hlt hl]
        exact ih (i + 1) (by omega)
      · rw [if_pos hz]
        exact cond_T (show (mayOp l[i] != 0) = true by simp [hz]) rfl
  have := loop l.length 0 (by omega)
  rw [List.drop_zero] at this
  exact this
end Go.Vs

set_option linter.unusedVariables false
set_option linter.unusedSimpArgs false
namespace Go.Vs
open Go.Proofs
variable {G : (f : FuncId) → (g : Sig) → Option (g.A → Option g.B)}
theorem fx138 (hG : ∀ f g, G f g = none) (v : EdgeT) (x : ID) : FX G 138 sg138 ((v, x, ()), ()) = some ((ordI v.1 x, ()), ()) := by
  refine fx_of (fn := Tryz.f138) (hG _ _) (by kernel_rfl) (by kernel_rfl) ((nf138 _ _ _).trans ?_)
  exact bind_of (fx127 hG v.1 x) rfl
/-- How many there are ahead of a name. -/
def cntE (l : List EdgeT) (x : ID) : Nat := l.countP fun v => ltI v.1 x
def SortE (l : List EdgeT) : Prop := l.Pairwise fun a b => ltI a.1 b.1 = true
theorem cntE_le (l : List EdgeT) (x : ID) : cntE l x ≤ l.length := List.countP_le_length
theorem cntE_none {l : List EdgeT} {x : ID} (h : ∀ v ∈ l, ltI v.1 x = false) : cntE l x = 0 := by
  unfold cntE; rw [List.countP_eq_zero]; intro v hv; simp [h v hv]
theorem cntE_spec {x : ID} : ∀ {l : List EdgeT}, SortE l → ∀ (k : Nat) (v : EdgeT), l[k]? = some v → (ltI v.1 x = true ↔ k < cntE l x)
  | [], _, k, v, h => by simp at h
  | w :: r, hs, k, v, h => by
    have hw : ∀ {u : EdgeT}, u ∈ r → ltI w.1 u.1 = true := fun {u} hu => List.rel_of_pairwise_cons hs hu
    have hr : SortE r := hs.of_cons
    by_cases hlt : ltI w.1 x = true
    · have e : cntE (w :: r) x = cntE r x + 1 := by unfold cntE; rw [List.countP_cons_of_pos (by simpa using hlt)]
      cases k with
      | zero => simp at h; subst h; simp [hlt, e]
      | succ k => have := cntE_spec (x := x) hr k v (by simpa using h); rw [this, e]; omega
    · have hn : ∀ u ∈ w :: r, ltI u.1 x = false := fun u hu => by
        rcases List.mem_cons.1 hu with rfl | hu
        · simpa using hlt
        · rw [Bool.eq_false_iff]; intro h2; exact hlt (ltI_trans (hw hu) h2)
      rw [cntE_none hn, hn v (List.mem_of_getElem? h)]
      simp
theorem lx139137 (hG : ∀ f g, G f g = none) (l : List EdgeT) (x : ID) (hs : SortE l) (hl : l.length ≤ 50000000) : ∀ (n i j : Nat), j - i ≤ n → i ≤ cntE l x → cntE l x ≤ j → j ≤ l.length →
    LX G 139137 sg139137 Tryz.f137 sh139137_0 (seg Tryz.prog 137 0) ((l, (((l.length : Nat) : Int), ((i : Int), ((j : Int), ())))), (((x, ()), ()), ())) = some (((((cntE l x : Nat) : Int), (decide ((l[cntE l x]?).map (·.1) = some x), ())) : Int × (Bool × Unit)), ()) := by
  have hcl := cntE_le l x
  have fin : ∀ (i j : Nat), ¬ (i < j) → i ≤ cntE l x → cntE l x ≤ j → LX G 139137 sg139137 Tryz.f137 sh139137_0 (seg Tryz.prog 137 0) ((l, (((l.length : Nat) : Int), ((i : Int), ((j : Int), ())))), (((x, ()), ()), ())) = some (((((cntE l x : Nat) : Int), (decide ((l[cntE l x]?).map (·.1) = some x), ())) : Int × (Bool × Unit)), ()) := fun i j hij h1 h2 => by
    have hi : i = cntE l x := by omega
    subst hi
    refine lx_of (j := 0) (by kernel_rfl) ((nl139137_0 _ _ _).trans ?_)
    refine cond_F (decide_eq_false (show ¬ (((cntE l x : Nat) : Int) < (j : Int)) by omega)) ?_
    by_cases hc : cntE l x < l.length
    · have hx : l[cntE l x]? = some l[cntE l x] := List.getElem?_eq_getElem hc
      refine cond_T (lt_up hc) ?_
      refine bind_of (getI_of hx) ?_
      refine bind_of (fx138 hG l[cntE l x] x) ?_
      refine congrArg (fun b : Bool => some ((((cntE l x : Nat) : Int), (b, ())), ())) ?_
      rw [hx]
      unfold ordI
      by_cases he : l[cntE l x].1 = x
      · simp [he]
      · simp [he]; split <;> simp
    · refine cond_F (decide_eq_false (show ¬ (((cntE l x : Nat) : Int) < ((l.length : Nat) : Int)) by omega)) ?_
      refine congrArg (fun b : Bool => some ((((cntE l x : Nat) : Int), (b, ())), ())) ?_
      rw [List.getElem?_eq_none (by omega)]; simp
  intro n
  induction n with
  | zero => intro i j hij h1 h2 h3; exact fin i j (by omega) h1 h2
  | succ n ih =>
    intro i j hij h1 h2 h3
    by_cases hlt : i < j
    case neg => exact fin i j hlt h1 h2
    refine lx_of (j := 0) (by kernel_rfl) ((nl139137_0 _ _ _).trans ?_)
    refine cond_T (decide_eq_true (show ((i : Int) < (j : Int)) by omega)) ?_
    refine cond_F rfl ?_
    have hm := mid_eq (i := i) (j := j) (by omega) (by omega)
    have hh : (i + j) / 2 < l.length := by omega
    have hx : l[(i + j) / 2]? = some l[(i + j) / 2] := List.getElem?_eq_getElem hh
    have hsp := cntE_spec (x := x) hs ((i + j) / 2) _ hx
    refine bind_of (show getI l (IntKind.wrap .i64 (shrI .u64 (IntKind.wrap .u64 (IntKind.wrap .i64 ((i : Int) + (j : Int)))) (1 : Int))) = some l[(i + j) / 2] by rw [hm]; exact getI_of hx) ?_
    refine bind_of (fx138 hG l[(i + j) / 2] x) ?_
    by_cases ho : ltI l[(i + j) / 2].1 x = true
    · refine cond_T (decide_eq_true ((ordI_lt _ _).2 ho)) ?_
      have hc := hsp.1 ho
      have hw : IntKind.wrap .i64 (IntKind.wrap .i64 (shrI .u64 (IntKind.wrap .u64 (IntKind.wrap .i64 ((i : Int) + (j : Int)))) (1 : Int)) + 1) = (((i + j) / 2 + 1 : Nat) : Int) := by
        rw [hm]; exact wrap_up hh (by omega)
      have := ih ((i + j) / 2 + 1) j (by omega) (by omega) h2 h3
      rw [← hw] at this
      exact this
    · refine cond_F (decide_eq_false (fun h => ho ((ordI_lt _ _).1 h))) ?_
      have hc : ¬ (i + j) / 2 < cntE l x := fun h => ho (hsp.2 h)
      have := ih i ((i + j) / 2) (by omega) h1 (by omega) (by omega)
      rw [← hm] at this
      exact this
theorem fx139137 (hG : ∀ f g, G f g = none) (l : List EdgeT) (x : ID) (hs : SortE l) (hl : l.length ≤ 50000000) :
    FX G 139137 sg139137 ((l, x, ()), ()) = some (((((cntE l x : Nat) : Int), (decide ((l[cntE l x]?).map (·.1) = some x), ())) : Int × (Bool × Unit)), ()) := by
  refine fx_of (fn := Tryz.f137) (hG _ _) (by kernel_rfl) (by kernel_rfl) ((nf139137 _ _ _).trans ?_)
  exact lx139137 hG l x hs hl l.length 0 l.length (by omega) (by omega) (cntE_le l x) (Nat.le_refl _)
theorem fx115 (hG : ∀ f g, G f g = none) (w : WorkT) (x : ID) (hs : SortE w.2.1) (hl : w.2.1.length ≤ 50000000) :
    FX G 115 sg115 ((x, ()), (w, ())) = some (((((cntE w.2.1 x : Nat) : Int), (decide ((w.2.1[cntE w.2.1 x]?).map (·.1) = some x), ())) : Int × (Bool × Unit)), (w, ())) := by
  refine fx_of (fn := Tryz.f115) (hG _ _) (by kernel_rfl) (by kernel_rfl) ((nf115 _ _ _).trans ?_)
  exact bind_of (fx139137 hG w.2.1 x hs hl) rfl

/-! Finding, adding and dropping by place. -/
theorem findE_cnt {x : ID} : ∀ {l : List EdgeT}, SortE l → findE l x = (l[cntE l x]?).filter fun v => decide (v.1 = x)
  | [], _ => rfl
  | w :: r, hs => by
    have hw : ∀ {u : EdgeT}, u ∈ r → ltI w.1 u.1 = true := fun {u} hu => List.rel_of_pairwise_cons hs hu
    have hr : SortE r := hs.of_cons
    by_cases hlt : ltI w.1 x = true
    · have e : cntE (w :: r) x = cntE r x + 1 := by unfold cntE; rw [List.countP_cons_of_pos (by simpa using hlt)]
      have hne : ¬ w.1 = x := fun e => by rw [e, ltI_irrefl] at hlt; cases hlt
      rw [e]
      simp only [findE, List.find?_cons, hne, decide_false, List.getElem?_cons_succ]
      exact findE_cnt hr
    · have hn : ∀ u ∈ w :: r, ltI u.1 x = false := fun u hu => by
        rcases List.mem_cons.1 hu with rfl | hu
        · simpa using hlt
        · rw [Bool.eq_false_iff]; intro h2; exact hlt (ltI_trans (hw hu) h2)
      rw [cntE_none hn]
      by_cases he : w.1 = x
      · simp [findE, List.find?_cons, he, Option.filter]
      · have hgt : ltI x w.1 = true := ltI_total (by simpa using hlt) he
        have : findE r x = none := by
          unfold findE; rw [List.find?_eq_none]; intro u hu h2
          have h3 : u.1 = x := by simpa using h2
          have h4 := hw hu
          rw [h3] at h4
          have := ltI_asymm h4
          rw [hgt] at this; cases this
        rw [show findE (w :: r) x = findE r x by simp only [findE, List.find?_cons, he, decide_false], this]
        simp [he, Option.filter]
theorem thereE_iff {l : List EdgeT} {x : ID} (hs : SortE l) : decide ((l[cntE l x]?).map (·.1) = some x) = (findE l x).isSome := by
  rw [findE_cnt hs]
  cases h : l[cntE l x]? with
  | none => simp
  | some v => by_cases he : v.1 = x <;> simp [he, Option.filter]
theorem addE_cnt (v : EdgeT) : ∀ {l : List EdgeT}, SortE l → findE l v.1 = none → addE v l = l.take (cntE l v.1) ++ (v :: l.drop (cntE l v.1))
  | [], _, _ => rfl
  | w :: r, hs, hf => by
    have hw : ∀ {u : EdgeT}, u ∈ r → ltI w.1 u.1 = true := fun {u} hu => List.rel_of_pairwise_cons hs hu
    have hr : SortE r := hs.of_cons
    have hne : ¬ w.1 = v.1 := fun e => by simp [findE, e] at hf
    have hfr : findE r v.1 = none := by simpa [findE, List.find?_cons, hne] using hf
    by_cases hlt : ltI w.1 v.1 = true
    · have e : cntE (w :: r) v.1 = cntE r v.1 + 1 := by unfold cntE; rw [List.countP_cons_of_pos (by simpa using hlt)]
      have hge : ltI v.1 w.1 = false := ltI_asymm hlt
      rw [e, addE, if_neg (by simp [hge]), addE_cnt v hr hfr]
      rfl
    · have hn : ∀ u ∈ w :: r, ltI u.1 v.1 = false := fun u hu => by
        rcases List.mem_cons.1 hu with rfl | hu
        · simpa using hlt
        · rw [Bool.eq_false_iff]; intro h2; exact hlt (ltI_trans (hw hu) h2)
      have hgt : ltI v.1 w.1 = true := ltI_total (by simpa using hlt) hne
      rw [cntE_none hn, addE, if_pos hgt]; rfl
theorem dropE_cnt {x : ID} : ∀ {l : List EdgeT}, SortE l → (findE l x).isSome = true → dropE l x = l.take (cntE l x) ++ l.drop (cntE l x + 1)
  | [], _, hf => by simp [findE] at hf
  | w :: r, hs, hf => by
    have hw : ∀ {u : EdgeT}, u ∈ r → ltI w.1 u.1 = true := fun {u} hu => List.rel_of_pairwise_cons hs hu
    have hr : SortE r := hs.of_cons
    by_cases he : w.1 = x
    · have hn : ∀ u ∈ w :: r, ltI u.1 x = false := fun u hu => by
        rcases List.mem_cons.1 hu with rfl | hu
        · rw [he, ltI_irrefl]
        · rw [← he]; exact ltI_asymm (hw hu)
      have hall : dropE r x = r := by
        unfold dropE; rw [List.filter_eq_self]; intro u hu
        have h4 := hw hu
        simp; intro e2; rw [he, e2, ltI_irrefl] at h4; cases h4
      rw [cntE_none hn]
      unfold dropE
      rw [List.filter_cons_of_neg (by simp [he])]
      exact hall
    · have hfr : (findE r x).isSome = true := by simpa [findE, List.find?_cons, he] using hf
      have hlt : ltI w.1 x = true := by
        obtain ⟨u, hu⟩ := Option.isSome_iff_exists.1 hfr
        have h1 := List.mem_of_find?_eq_some hu
        have h2 : u.1 = x := by simpa using List.find?_some hu
        rw [← h2]; exact hw h1
      have e : cntE (w :: r) x = cntE r x + 1 := by unfold cntE; rw [List.countP_cons_of_pos (by simpa using hlt)]
      rw [e]
      have := dropE_cnt hr hfr
      simp [dropE, List.filter_cons, he] at this ⊢
      exact this
theorem sort_addE (v : EdgeT) : ∀ {l : List EdgeT}, SortE l → findE l v.1 = none → SortE (addE v l)
  | [], _, _ => List.pairwise_singleton _ _
  | w :: r, hs, hf => by
    have hw : ∀ {u : EdgeT}, u ∈ r → ltI w.1 u.1 = true := fun {u} hu => List.rel_of_pairwise_cons hs hu
    have hr : SortE r := hs.of_cons
    have hne : ¬ w.1 = v.1 := fun e => by simp [findE, e] at hf
    have hfr : findE r v.1 = none := by simpa [findE, List.find?_cons, hne] using hf
    unfold addE
    split
    · rename_i h
      refine List.Pairwise.cons (fun u hu => ?_) hs
      rcases List.mem_cons.1 hu with rfl | hu
      · exact h
      · exact ltI_trans h (hw hu)
    · rename_i h
      have hlt : ltI w.1 v.1 = true := ltI_total (by simpa using h) (fun e => hne e.symm)
      refine List.Pairwise.cons (fun u hu => ?_) (sort_addE v hr hfr)
      rcases mem_addE.1 hu with rfl | hu
      · exact hlt
      · exact hw hu
theorem sort_dropE {l : List EdgeT} {x : ID} (hs : SortE l) : SortE (dropE l x) := hs.filter _


/-! ### What stands at a place -/
theorem get_cntV {l : List Vert} {x : ID} {v : Vert} (hs : SortV l) (h : findV l x = some v) : l[cntV l x]? = some v := by
  have hcnt := findV_cnt (x := x) hs
  rw [h] at hcnt
  cases hg : l[cntV l x]? with
  | none => rw [hg] at hcnt; simp [Option.filter] at hcnt
  | some u =>
    rw [hg] at hcnt
    simp only [Option.filter] at hcnt
    split at hcnt
    · exact hcnt.symm
    · cases hcnt
theorem findV_id {l : List Vert} {x : ID} {v : Vert} (h : findV l x = some v) : v.1 = x := by simpa using List.find?_some h
theorem findV_mem {l : List Vert} {x : ID} {v : Vert} (h : findV l x = some v) : v ∈ l := List.mem_of_find?_eq_some h
theorem cntV_only {l : List Vert} {x : ID} {k : Nat} {u : Vert} (hs : SortV l) (hk : l[k]? = some u) (hu : u.1 = x) : k = cntV l x := by
  have h1 : ¬ k < cntV l x := fun h => by
    have := (cntV_spec hs k u hk).2 h
    rw [hu, ltI_irrefl] at this; cases this
  have hf : (findV l x).isSome = true := by
    unfold findV; rw [List.find?_isSome]; exact ⟨u, List.mem_of_getElem? hk, by simp [hu]⟩
  obtain ⟨v, hv⟩ := Option.isSome_iff_exists.1 hf
  have hg := get_cntV hs hv
  by_cases h2 : cntV l x < k
  · obtain ⟨h3, h4⟩ := List.getElem?_eq_some_iff.1 hg
    obtain ⟨h5, h6⟩ := List.getElem?_eq_some_iff.1 hk
    have := List.pairwise_iff_getElem.1 hs _ _ h3 h5 h2
    rw [h4, h6, findV_id hv, hu, ltI_irrefl] at this; cases this
  · omega
theorem mapV_cnt {l : List Vert} {x : ID} {v : Vert} (hs : SortV l) (h : findV l x = some v) (g f : Vert → Vert) (h1 : ∀ w, w.1 = x → g w = f w) (h2 : ∀ w, w.1 ≠ x → g w = w) : l.map g = l.set (cntV l x) (f v) := by
  have hg := get_cntV hs h
  apply List.ext_getElem?
  intro k
  rw [List.getElem?_map, List.getElem?_set]
  by_cases hk : cntV l x = k
  · subst hk
    rw [if_pos rfl, if_pos (List.getElem?_eq_some_iff.1 hg).1, hg]
    simp [h1 v (findV_id h)]
  · rw [if_neg hk]
    cases hu : l[k]? with
    | none => rfl
    | some u =>
      have : u.1 ≠ x := fun e => hk (cntV_only hs hu e).symm
      simp [h2 u this]
theorem get_cntE {l : List EdgeT} {x : ID} {v : EdgeT} (hs : SortE l) (h : findE l x = some v) : l[cntE l x]? = some v := by
  have hcnt := findE_cnt (x := x) hs
  rw [h] at hcnt
  cases hg : l[cntE l x]? with
  | none => rw [hg] at hcnt; simp [Option.filter] at hcnt
  | some u =>
    rw [hg] at hcnt
    simp only [Option.filter] at hcnt
    split at hcnt
    · exact hcnt.symm
    · cases hcnt
theorem findE_id {l : List EdgeT} {x : ID} {v : EdgeT} (h : findE l x = some v) : v.1 = x := by simpa using List.find?_some h
theorem findE_mem {l : List EdgeT} {x : ID} {v : EdgeT} (h : findE l x = some v) : v ∈ l := List.mem_of_find?_eq_some h
theorem cntE_only {l : List EdgeT} {x : ID} {k : Nat} {u : EdgeT} (hs : SortE l) (hk : l[k]? = some u) (hu : u.1 = x) : k = cntE l x := by
  have h1 : ¬ k < cntE l x := fun h => by
    have := (cntE_spec hs k u hk).2 h
    rw [hu, ltI_irrefl] at this; cases this
  have hf : (findE l x).isSome = true := by
    unfold findE; rw [List.find?_isSome]; exact ⟨u, List.mem_of_getElem? hk, by simp [hu]⟩
  obtain ⟨v, hv⟩ := Option.isSome_iff_exists.1 hf
  have hg := get_cntE hs hv
  by_cases h2 : cntE l x < k
  · obtain ⟨h3, h4⟩ := List.getElem?_eq_some_iff.1 hg
    obtain ⟨h5, h6⟩ := List.getElem?_eq_some_iff.1 hk
    have := List.pairwise_iff_getElem.1 hs _ _ h3 h5 h2
    rw [h4, h6, findE_id hv, hu, ltI_irrefl] at this; cases this
  · omega
theorem mapE_cnt {l : List EdgeT} {x : ID} {v : EdgeT} (hs : SortE l) (h : findE l x = some v) (g f : EdgeT → EdgeT) (h1 : ∀ w, w.1 = x → g w = f w) (h2 : ∀ w, w.1 ≠ x → g w = w) : l.map g = l.set (cntE l x) (f v) := by
  have hg := get_cntE hs h
  apply List.ext_getElem?
  intro k
  rw [List.getElem?_map, List.getElem?_set]
  by_cases hk : cntE l x = k
  · subst hk
    rw [if_pos rfl, if_pos (List.getElem?_eq_some_iff.1 hg).1, hg]
    simp [h1 v (findE_id h)]
  · rw [if_neg hk]
    cases hu : l[k]? with
    | none => rfl
    | some u =>
      have : u.1 ≠ x := fun e => hk (cntE_only hs hu e).symm
      simp [h2 u this]
theorem SortE.map {l : List EdgeT} (h : SortE l) {f : EdgeT → EdgeT} (hf : ∀ v, (f v).1 = v.1) : SortE (l.map f) := by
  unfold SortE at h ⊢
  rw [List.pairwise_map]
  exact h.imp fun {a b} hab => by rw [hf, hf]; exact hab
end Go.Vs

set_option linter.unusedVariables false
set_option linter.unusedSimpArgs false
namespace Go.Vs
open Go.Proofs
variable {G : (f : FuncId) → (g : Sig) → Option (g.A → Option g.B)}

theorem opt_S {α R : Type} {o : Option α} {a r : Option R} {f : α → Option R} {p : α} (h : o = some p) (k : f p = r) : optE o a f = r := by subst h; exact k
theorem opt_N {α R : Type} {o : Option α} {a r : Option R} {f : α → Option R} (h : o = none) (k : a = r) : optE o a f = r := by subst h; exact k
def newEP (w : WorkT) (x : ID) : Int × WorkT :=
  if (findE w.2.1 x).isSome = true then (12, w) else if 40 ≤ w.2.1.length then (3, w) else (0, (w.1, (addE (x, (e0, 0)) w.2.1, w.2.2)))
theorem fx110 (hG : ∀ f g, G f g = none) (w : WorkT) (x : ID) (hs : SortE w.2.1) (hl : w.2.1.length ≤ 50000000) : FX G 110 sg110 ((x, ()), (w, ())) = some (((newEP w x).1, ()), ((newEP w x).2, ())) := by
  refine fx_of (fn := Tryz.f110) (hG _ _) (by kernel_rfl) (by kernel_rfl) ((nf110 _ _ _).trans ?_)
  refine bind_of (fx115 hG w x hs hl) ?_
  unfold newEP
  cases hf : (findE w.2.1 x).isSome
  · rw [if_neg (by simp)]
    refine cond_F ((thereE_iff hs).trans hf) ?_
    by_cases h2 : 40 ≤ w.2.1.length
    · rw [if_pos h2]
      exact cond_T (decide_eq_true (show ((w.2.1.length : Nat) : Int) ≥ 40 by omega)) rfl
    · rw [if_neg h2]
      refine cond_F (decide_eq_false (show ¬ ((w.2.1.length : Nat) : Int) ≥ 40 by omega)) ?_
      have hc := cntE_le w.2.1 x
      have hok : insOk w.2.1 ((cntE w.2.1 x : Nat) : Int) [((x, (e0, 0)) : EdgeT)] = true := by
        unfold insOk
        rw [decide_eq_true (show (0 : Int) ≤ ((cntE w.2.1 x : Nat) : Int) by omega), decide_eq_true (show ((cntE w.2.1 x : Nat) : Int) ≤ ((w.2.1.length : Nat) : Int) by omega)]
        rw [fits (by simp; omega)]; rfl
      refine cond_T hok ?_
      have e : insRow w.2.1 ((cntE w.2.1 x : Nat) : Int) [((x, (e0, 0)) : EdgeT)] = addE (x, (e0, 0)) w.2.1 := by
        rw [addE_cnt (x, (e0, 0)) hs (by simpa using hf)]
        unfold insRow; simp
      exact congrArg (fun l : List EdgeT => some (((0 : Int), ()), ((w.1, (l, w.2.2)), ()))) e
  · rw [if_pos rfl]
    exact cond_T ((thereE_iff hs).trans hf) rfl

/-! ### Labels and attributes -/
def lblP (w : WorkT) (o : OpT) : Option (Fin 2 × Nat) :=
  if oOfE o = true then (if (findE w.2.1 (oId o)).isSome = true then some (⟨1, by decide⟩, cntE w.2.1 (oId o)) else none)
  else (if (findV w.1 (oId o)).isSome = true then some (⟨0, by decide⟩, cntV w.1 (oId o)) else none)
theorem fx124 (hG : ∀ f g, G f g = none) (w : WorkT) (o : OpT) (hv : SortV w.1) (he : SortE w.2.1) (hlv : w.1.length ≤ 50000000) (hle : w.2.1.length ≤ 50000000) :
    FX G 124 sg124 ((o, ()), (w, ())) = some ((lblP w o, (lblP w o, ())), (w, ())) := by
  refine fx_of (fn := Tryz.f124) (hG _ _) (by kernel_rfl) (by kernel_rfl) ((nf124 _ _ _).trans ?_)
  unfold lblP
  by_cases ho : oOfE o = true
  · rw [if_pos ho]
    refine cond_T ho ?_
    refine bind_of (fx115 hG w (oId o) he hle) ?_
    cases hf : findE w.2.1 (oId o) with
    | none =>
      refine cond_F ((thereE_iff he).trans (by rw [hf]; rfl)) ?_
      rfl
    | some e =>
      refine cond_T ((thereE_iff he).trans (by rw [hf]; rfl)) ?_
      have hlt := (List.getElem?_eq_some_iff.1 (get_cntE he hf)).1
      refine cond_T (both_T (ge_up _) (lt_up hlt)) ?_
      exact cond_T (both_T (ge_up _) (lt_up hlt)) rfl
  · rw [if_neg ho]
    refine cond_F (by simpa using ho) ?_
    refine bind_of (fx107 hG w (oId o) hv hlv) ?_
    cases hf : findV w.1 (oId o) with
    | none =>
      refine cond_F ((there_iff hv).trans (by rw [hf]; rfl)) ?_
      rfl
    | some e =>
      refine cond_T ((there_iff hv).trans (by rw [hf]; rfl)) ?_
      have hlt := (List.getElem?_eq_some_iff.1 (get_cntV hv hf)).1
      refine cond_T (both_T (ge_up _) (lt_up hlt)) ?_
      exact cond_T (both_T (ge_up _) (lt_up hlt)) rfl
def setP (w : WorkT) (o : OpT) : Int × WorkT :=
  if oOfE o = true then (if (findE w.2.1 (oId o)).isSome = true then (0, (w.1, (w.2.1.map (setE o), w.2.2))) else (13, w))
  else (if (findV w.1 (oId o)).isSome = true then (0, (w.1.map (setV o), w.2)) else (13, w))
theorem fx96 (hG : ∀ f g, G f g = none) (w : WorkT) (o : OpT) (hv : SortV w.1) (he : SortE w.2.1) (hlv : w.1.length ≤ 50000000) (hle : w.2.1.length ≤ 50000000) :
    FX G 96 sg96 ((o, ()), (w, ())) = some (((setP w o).1, ()), ((setP w o).2, ())) := by
  refine fx_of (fn := Tryz.f96) (hG _ _) (by kernel_rfl) (by kernel_rfl) ((nf96 _ _ _).trans ?_)
  refine bind_of (fx124 hG w o hv he hlv hle) ?_
  by_cases ho : oOfE o = true
  · cases hf : findE w.2.1 (oId o) with
    | none =>
      have e1 : lblP w o = none := by unfold lblP; rw [if_pos ho, hf]; rfl
      have e2 : setP w o = (13, w) := by unfold setP; rw [if_pos ho, hf]; rfl
      rw [e2]
      exact opt_N e1 (opt_N e1 rfl)
    | some e =>
      have e1 : lblP w o = some (⟨1, by decide⟩, cntE w.2.1 (oId o)) := by unfold lblP; rw [if_pos ho, hf]; rfl
      have hm : ∀ f : EdgeT → EdgeT, (∀ u, u.1 = oId o → setE o u = f u) → w.2.1.map (setE o) = w.2.1.set (cntE w.2.1 (oId o)) (f e) := fun f hf1 =>
        mapE_cnt he hf (setE o) f hf1 (fun u hu => by unfold setE; rw [if_neg (fun k => hu k.2)])
      have e2 : setP w o = (0, (w.1, (w.2.1.map (setE o), w.2.2))) := by unfold setP; rw [if_pos ho, hf]; rfl
      rw [e2]
      refine opt_S e1 (cond_F rfl (cond_T rfl (opt_S e1 (cond_F rfl (cond_T rfl ?_)))))
      by_cases h7 : o.1 = 7
      · refine cond_T (keq h7) (bind_of (get_cntE he hf) ?_)
        have := hm (fun u => (u.1, (oText o, u.2.2))) (fun u hu => by unfold setE; rw [if_pos ⟨ho, hu⟩, if_pos h7])
        exact congrArg (fun l : List EdgeT => some (((0 : Int), ()), ((w.1, (l, w.2.2)), ()))) this.symm
      · refine cond_F (kne h7) (bind_of (get_cntE he hf) ?_)
        have := hm (fun u => (u.1, (u.2.1, oN o))) (fun u hu => by unfold setE; rw [if_pos ⟨ho, hu⟩, if_neg h7])
        exact congrArg (fun l : List EdgeT => some (((0 : Int), ()), ((w.1, (l, w.2.2)), ()))) this.symm
  · have ho' : oOfE o = false := by simpa using ho
    cases hf : findV w.1 (oId o) with
    | none =>
      have e1 : lblP w o = none := by unfold lblP; rw [if_neg ho, hf]; rfl
      have e2 : setP w o = (13, w) := by unfold setP; rw [if_neg ho, hf]; rfl
      rw [e2]
      exact opt_N e1 (opt_N e1 rfl)
    | some e =>
      have e1 : lblP w o = some (⟨0, by decide⟩, cntV w.1 (oId o)) := by unfold lblP; rw [if_neg ho, hf]; rfl
      have hm : ∀ f : Vert → Vert, (∀ u, u.1 = oId o → setV o u = f u) → w.1.map (setV o) = w.1.set (cntV w.1 (oId o)) (f e) := fun f hf1 =>
        mapV_cnt hv hf (setV o) f hf1 (fun u hu => by unfold setV; rw [if_neg (fun k => hu k.2)])
      have e2 : setP w o = (0, (w.1.map (setV o), w.2)) := by unfold setP; rw [if_neg ho, hf]; rfl
      rw [e2]
      refine opt_S e1 (cond_T rfl (opt_S e1 (cond_T rfl ?_)))
      by_cases h7 : o.1 = 7
      · refine cond_T (keq h7) (bind_of (get_cntV hv hf) ?_)
        have := hm (fun u => (u.1, (u.2.1, (oText o, u.2.2.2)))) (fun u hu => by unfold setV; rw [if_pos ⟨ho', hu⟩, if_pos h7])
        exact congrArg (fun l : List Vert => some (((0 : Int), ()), ((l, w.2), ()))) this.symm
      · refine cond_F (kne h7) (bind_of (get_cntV hv hf) ?_)
        have := hm (fun u => (u.1, (u.2.1, (u.2.2.1, oN o)))) (fun u hu => by unfold setV; rw [if_pos ⟨ho', hu⟩, if_neg h7])
        exact congrArg (fun l : List Vert => some (((0 : Int), ()), ((l, w.2), ()))) this.symm
end Go.Vs

set_option linter.unusedVariables false
set_option linter.unusedSimpArgs false
namespace Go.Vs
open Go.Proofs
variable {G : (f : FuncId) → (g : Sig) → Option (g.A → Option g.B)}

theorem fx142 (hG : ∀ f g, G f g = none) (a b : Dart) : FX G 142 sg142 ((a, b, ()), ()) = some ((ordD a b, ()), ()) := by
  refine fx_of (fn := Tryz.f142) (hG _ _) (by kernel_rfl) (by kernel_rfl) ((nf142 _ _ _).trans ?_)
  refine bind_of (fx127 hG a.1 b.1) ?_
  refine bind_of (fx145 hG a.2 b.2) ?_
  refine bind_of (fx144 (hG _ _) (ordI a.1 b.1) (cmpI a.2 b.2)) ?_
  refine congrArg (fun n : Int => some ((n, ()), ())) ?_
  obtain ⟨a1, a2⟩ := a
  obtain ⟨b1, b2⟩ := b
  unfold ordD ordI cmpI ltD
  simp only [Prod.mk.injEq]
  by_cases h : a1 = b1
  · subst h
    simp only [if_true, ltI_irrefl, Bool.false_or, true_and, decide_true, Bool.true_and]
    by_cases h1 : a2 < b2
    · have : ¬ a2 = b2 := by omega
      simp [h1, this]
    · by_cases h2 : a2 > b2
      · have : ¬ a2 = b2 := by omega
        simp [h1, h2, this]
      · have : a2 = b2 := by omega
        simp [this]
  · simp only [h, if_false, false_and, decide_false, Bool.false_and, Bool.or_false]
    cases ltI a1 b1 <;> simp
theorem lx134 (hG : G 134 sg134 = none) (row : List Dart) (d : Dart) (hl : row.length ≤ 1073741824) : ∀ (n i : Nat), i + n = row.length →
    LX G 134 sg134 Tryz.f134 sh134_0 (seg Tryz.prog 134 0) ((row, (((row.length : Nat) : Int), ((i : Int), ()))), (((d, ()), ()), ())) = some ((idx d (row.drop i) i, ()), ()) := by
  intro n
  induction n with
  | zero =>
    intro i hi
    refine lx_of (j := 0) (by kernel_rfl) ((nl134_0 _ _ _).trans ?_)
    refine cond_F (decide_eq_false (show ¬ ((i : Int) < ((row.length : Nat) : Int)) by omega)) ?_
    rw [List.drop_eq_nil_of_le (by omega)]; rfl
  | succ n ih =>
    intro i hi
    have hlt : i < row.length := by omega
    refine lx_of (j := 0) (by kernel_rfl) ((nl134_0 _ _ _).trans ?_)
    refine cond_T (lt_up hlt) (bind_of (getI_of (List.getElem?_eq_getElem hlt)) ?_)
    rw [List.drop_eq_getElem_cons hlt, idx]
    by_cases he : row[i] = d
    · rw [if_pos he]
      exact cond_T ((beqD d row[i]).trans (decide_eq_true he.symm)) rfl
    · rw [if_neg he]
      refine cond_F ((beqD d row[i]).trans (decide_eq_false fun h => he h.symm)) ?_
      rw [wrap_up hlt hl]
      exact ih (i + 1) (by omega)
theorem fx134 (hG : G 134 sg134 = none) (row : List Dart) (d : Dart) (hl : row.length ≤ 1073741824) : FX G 134 sg134 ((row, d, ()), ()) = some ((idx d row 0, ()), ()) := by
  refine fx_of (fn := Tryz.f134) hG (by kernel_rfl) (by kernel_rfl) ((nf134 _ _ _).trans ?_)
  have := lx134 hG row d hl row.length 0 (by omega)
  rw [List.drop_zero] at this
  exact this
theorem fx133 (hG : ∀ f g, G f g = none) (row : List Dart) (d : Dart) (hl : row.length ≤ 1073741824) : FX G 133 sg133 ((row, d, ()), ()) = some ((decide (d ∈ row), ()), ()) := by
  refine fx_of (fn := Tryz.f133) (hG _ _) (by kernel_rfl) (by kernel_rfl) ((nf133 _ _ _).trans ?_)
  refine bind_of (fx134 (hG _ _) row d hl) ?_
  refine congrArg (fun b : Bool => some ((b, ()), ())) ?_
  rw [Bool.eq_iff_iff]
  simp only [decide_eq_true_eq]
  have := idx_neg (d := d) (row := row)
  constructor
  · intro h; exact Classical.byContradiction fun k => by have := this.2 k; omega
  · intro h
    have h2 : ¬ idx d row 0 < 0 := fun k => this.1 k h
    omega

/-! ### The least -/
theorem ltD_irrefl (a : Dart) : ltD a a = false := by unfold ltD; simp [ltI_irrefl]
theorem ltD_trans {a b c : Dart} (h : ltD a b = true) (k : ltD b c = true) : ltD a c = true := by
  obtain ⟨⟨a1, a2⟩, a3⟩ := a; obtain ⟨⟨b1, b2⟩, b3⟩ := b; obtain ⟨⟨c1, c2⟩, c3⟩ := c
  simp [ltD, ltI] at *; omega
theorem ltD_total {a b : Dart} (h : ltD a b = false) (k : a ≠ b) : ltD b a = true := by
  obtain ⟨⟨a1, a2⟩, a3⟩ := a; obtain ⟨⟨b1, b2⟩, b3⟩ := b
  simp [ltD, ltI] at *; omega
theorem ltD_le_trans {a b c : Dart} (h : ltD a b = true) (k : ltD c b = false) : ltD a c = true := by
  obtain ⟨⟨a1, a2⟩, a3⟩ := a; obtain ⟨⟨b1, b2⟩, b3⟩ := b; obtain ⟨⟨c1, c2⟩, c3⟩ := c
  simp [ltD, ltI] at *; omega
theorem ordD_lt (a b : Dart) : ordD a b < 0 ↔ ltD a b = true := by
  unfold ordD
  by_cases h : a = b
  · subst h; simp [ltD_irrefl]
  · rw [if_neg h]; cases ltD a b <;> simp
theorem getD_of {row : List Dart} {k : Nat} (hk : k < row.length) : row.getD k zD = row[k] := by simp [List.getD, hk]
theorem mini_spec (row : List Dart) : ∀ (r : List Dart) (i k : Nat), row.drop i = r → k < row.length → k ≤ i → (∀ j, j < i → (hj : j < row.length) → ltD row[j] (row.getD k zD) = false) → (∀ j, j < k → (hj : j < row.length) → ltD (row.getD k zD) row[j] = true) →
    (∀ j, (hj : j < row.length) → ltD row[j] (row.getD (mini row r i k) zD) = false) ∧ (∀ j, j < mini row r i k → (hj : j < row.length) → ltD (row.getD (mini row r i k) zD) row[j] = true)
  | [], i, k, hr, hk, hki, h1, h2 => by
    have hi : row.length ≤ i := by
      have := congrArg List.length hr; simp at this; omega
    exact ⟨fun j hj => h1 j (by omega) hj, h2⟩
  | x :: r, i, k, hr, hk, hki, h1, h2 => by
    have hi : i < row.length := by
      have := congrArg List.length hr; simp at this; omega
    have hx : row[i] = x := by
      have := List.drop_eq_getElem_cons hi; rw [hr] at this; injection this with a b; exact a.symm
    have hr' : row.drop (i + 1) = r := by
      have := List.drop_eq_getElem_cons hi; rw [hr] at this; injection this with a b; exact b.symm
    unfold mini
    split
    · rename_i hlt
      rw [ordD_lt] at hlt
      refine mini_spec row r (i + 1) i hr' hi (by omega) (fun j hj hjl => ?_) (fun j hj hjl => ?_)
      · rw [getD_of hi, hx]
        rcases Nat.lt_succ_iff_lt_or_eq.1 hj with hj | rfl
        · cases hc : ltD row[j] x with
          | false => rfl
          | true => have := ltD_trans hc hlt; rw [h1 j hj hjl] at this; cases this
        · rw [hx, ltD_irrefl]
      · rw [getD_of hi, hx]
        exact ltD_le_trans hlt (h1 j (by omega) hjl)
    · rename_i hlt
      rw [ordD_lt] at hlt
      refine mini_spec row r (i + 1) k hr' hk (by omega) (fun j hj hjl => ?_) h2
      rcases Nat.lt_succ_iff_lt_or_eq.1 hj with hj | rfl
      · exact h1 j hj hjl
      · rw [hx]; simpa using hlt
theorem mini_least {row : List Dart} (h : 0 < row.length) : (∀ j, (hj : j < row.length) → ltD row[j] (row.getD (mini row row 0 0) zD) = false) ∧ (∀ j, j < mini row row 0 0 → (hj : j < row.length) → ltD (row.getD (mini row row 0 0) zD) row[j] = true) :=
  mini_spec row row 0 0 rfl h (Nat.le_refl _) (fun j hj => by omega) (fun j hj => by omega)
theorem idx_at {d : Dart} : ∀ {row : List Dart} {k : Nat} {i : Int}, row[k]? = some d → (∀ j, j < k → row[j]? ≠ some d) → idx d row i = i + k
  | [], k, i, h, _ => by simp at h
  | e :: r, 0, i, h, _ => by
    simp at h; subst h; rw [idx, if_pos rfl]; simp
  | e :: r, k + 1, i, h, hn => by
    have h0 := hn 0 (by omega)
    rw [idx, if_neg (fun e => h0 (by simp [e]))]
    rw [idx_at (k := k) (by simpa using h) (fun j hj => by have := hn (j + 1) (by omega); simpa using this)]
    simp; omega
theorem idx_mini {row : List Dart} (h : 0 < row.length) : idx (row.getD (mini row row 0 0) zD) row 0 = ((mini row row 0 0 : Nat) : Int) := by
  have hm := mini_lt row row 0 0 h (by omega)
  have := idx_at (d := row.getD (mini row row 0 0) zD) (row := row) (k := mini row row 0 0) (i := 0) (by rw [getD_of hm]; exact List.getElem?_eq_getElem hm) (fun j hj he => by
    obtain ⟨h1, h2⟩ := List.getElem?_eq_some_iff.1 he
    have := (mini_least h).2 j hj h1
    rw [h2, ltD_irrefl] at this; cases this)
  omega
theorem fx143141 (hG : ∀ f g, G f g = none) (row : List Dart) (h : 0 < row.length) (hl : row.length ≤ 100000000) : FX G 143141 sg143141 ((row, ()), ()) = some ((row.getD (mini row row 0 0) zD, ()), ()) := by
  refine fx_of (fn := Tryz.f141) (hG _ _) (by kernel_rfl) (by kernel_rfl) ((nf143141 _ _ _).trans ?_)
  refine cond_F (decide_eq_false (show ¬ ((row.length : Nat) : Int) < 1 by omega)) ?_
  refine bind_of (getI_of (i := 0) (List.getElem?_eq_getElem h)) ?_
  have loop : ∀ (n i k : Nat), i + n = row.length → k < row.length → LX G 143141 sg143141 Tryz.f141 sh143141_0 (seg Tryz.prog 141 0) ((row, ((i : Int), ())), (((zD, ()), (((row.getD k zD), ()), ())), ())) = some ((row.getD (mini row (row.drop i) i k) zD, ()), ()) := by
    intro n
    induction n with
    | zero =>
      intro i k hi hk
      refine lx_of (j := 0) (by kernel_rfl) ((nl143141_0 _ _ _).trans ?_)
      refine cond_F (decide_eq_false (show ¬ ((i : Int) < ((row.length : Nat) : Int)) by omega)) ?_
      rw [List.drop_eq_nil_of_le (by omega)]; rfl
    | succ n ih =>
      intro i k hi hk
      have hlt : i < row.length := by omega
      have hx : row[i]? = some row[i] := List.getElem?_eq_getElem hlt
      refine lx_of (j := 0) (by kernel_rfl) ((nl143141_0 _ _ _).trans ?_)
      refine cond_T (lt_up hlt) (bind_of (getI_of hx) ?_)
      refine bind_of (fx142 hG row[i] (row.getD k zD)) ?_
      rw [List.drop_eq_getElem_cons hlt, mini]
      by_cases ho : ordD row[i] (row.getD k zD) < 0
      · rw [if_pos ho]
        refine cond_T (decide_eq_true ho) (bind_of (getI_of hx) ?_)
        have := ih (i + 1) i (by omega) hlt
        rw [← wrap_up hlt (by omega), getD_of hlt] at this
        exact this
      · rw [if_neg ho]
        refine cond_F (decide_eq_false ho) ?_
        have := ih (i + 1) k (by omega) hk
        rw [← wrap_up hlt (by omega)] at this
        exact this
  have h1 := loop (row.length - 1) 1 0 (by omega) h
  have h2 : mini row row 0 0 = mini row (row.drop 1) 1 0 := by
    cases row with
    | nil => simp at h
    | cons x r =>
      rw [List.drop_one, List.tail_cons]
      conv => lhs; rw [mini]
      rw [if_neg]
      show ¬ ordD x x < 0
      unfold ordD; simp
  rw [h2]
  have h3 : row.getD 0 zD = row[0] := getD_of h
  rw [h3] at h1
  exact h1

/-! ### Rows joined -/
def total (ls : List (List Dart)) : Nat := (ls.map List.length).sum
theorem total_cons (a : List Dart) (r : List (List Dart)) : total (a :: r) = a.length + total r := by unfold total; rw [List.map_cons, List.sum_cons]
theorem fx143 (hG : ∀ f g, G f g = none) (ls : List (List Dart)) (hn : ls.length ≤ 1000) (hl : total ls ≤ 500000000) : FX G 143 sg143 ((ls, ()), ()) = some ((ls.flatten, ()), ()) := by
  refine fx_of (fn := Tryz.f143) (hG _ _) (by kernel_rfl) (by kernel_rfl) ((nf143 _ _ _).trans ?_)
  have loop1 : ∀ (n i : Nat) (out : List Dart), i + n = ls.length → out.length + total (ls.drop i) ≤ 500000000 → LX G 143 sg143 Tryz.f143 sh143_1 (seg Tryz.prog 143 1) ((ls, (((ls.length : Nat) : Int), ((i : Int), ()))), ((), (out, ()))) = some ((out ++ (ls.drop i).flatten, ()), ()) := by
    intro n
    induction n with
    | zero =>
      intro i out hi ho
      refine lx_of (j := 1) (by kernel_rfl) ((nl143_1 _ _ _).trans ?_)
      refine cond_F (decide_eq_false (show ¬ ((i : Int) < ((ls.length : Nat) : Int)) by omega)) ?_
      rw [List.drop_eq_nil_of_le (by omega), List.flatten_nil, List.append_nil]; rfl
    | succ n ih =>
      intro i out hi ho
      have hlt : i < ls.length := by omega
      rw [List.drop_eq_getElem_cons hlt] at ho ⊢
      have ho' : out.length + (ls[i].length + total (ls.drop (i + 1))) ≤ 500000000 := by
        have : total (ls[i] :: ls.drop (i + 1)) = ls[i].length + total (ls.drop (i + 1)) := total_cons _ _
        omega
      refine lx_of (j := 1) (by kernel_rfl) ((nl143_1 _ _ _).trans ?_)
      refine cond_T (lt_up hlt) (bind_of (getI_of (List.getElem?_eq_getElem hlt)) ?_)
      refine cond_T (fits (show out.length + ls[i].length ≤ 1073741824 by omega)) ?_
      have := ih (i + 1) (out ++ ls[i]) (by omega) (by rw [List.length_append]; omega)
      rw [List.flatten_cons, ← List.append_assoc]
      rw [← wrap_up hlt (by omega)] at this
      exact this
  have loop0 : ∀ (n i m : Nat), i + n = ls.length → m + total (ls.drop i) = total ls → LX G 143 sg143 Tryz.f143 sh143_0 (seg Tryz.prog 143 0) ((ls, ((m : Int), (ls, (((ls.length : Nat) : Int), ((i : Int), ()))))), ((), ())) = some ((ls.flatten, ()), ()) := by
    intro n
    induction n with
    | zero =>
      intro i m hi hm
      refine lx_of (j := 0) (by kernel_rfl) ((nl143_0 _ _ _).trans ?_)
      refine cond_F (decide_eq_false (show ¬ ((i : Int) < ((ls.length : Nat) : Int)) by omega)) ?_
      have hg : growOk (m : Int) = true := by
        unfold growOk
        rw [decide_eq_true (show (0 : Int) ≤ (m : Int) by omega)]
        rw [decide_eq_true (show (m : Int) ≤ most by unfold most; omega)]; rfl
      refine cond_T hg ?_
      have := loop1 ls.length 0 [] (by omega) (by rw [List.drop_zero]; simpa using hl)
      rw [List.drop_zero, List.nil_append] at this
      exact this
    | succ n ih =>
      intro i m hi hm
      have hlt : i < ls.length := by omega
      have hm' : m + ls[i].length + total (ls.drop (i + 1)) = total ls := by
        rw [List.drop_eq_getElem_cons hlt] at hm
        have : total (ls[i] :: ls.drop (i + 1)) = ls[i].length + total (ls.drop (i + 1)) := total_cons _ _
        omega
      refine lx_of (j := 0) (by kernel_rfl) ((nl143_0 _ _ _).trans ?_)
      refine cond_T (lt_up hlt) (bind_of (getI_of (List.getElem?_eq_getElem hlt)) ?_)
      have hw : IntKind.wrap .i64 ((m : Int) + ((ls[i].length : Nat) : Int)) = ((m + ls[i].length : Nat) : Int) := by rw [wrap_small (by omega) (by omega)]; rfl
      refine cond_F (decide_eq_false (show ¬ IntKind.wrap .i64 ((m : Int) + ((ls[i].length : Nat) : Int)) < 0 by rw [hw]; omega)) ?_
      have := ih (i + 1) (m + ls[i].length) (by omega) hm'
      rw [← wrap_up hlt (by omega), ← hw] at this
      exact this
  exact loop0 ls.length 0 0 (by omega) (by rw [List.drop_zero]; omega)
theorem cut_end {α : Type} (xs : List α) {k : Nat} (hk : k ≤ xs.length) : cut xs (k : Int) ((xs.length : Nat) : Int) = xs.drop k := by
  unfold cut; rw [Int.toNat_natCast, Int.toNat_natCast, List.take_of_length_le (Nat.le_refl _)]
theorem cut_start {α : Type} (xs : List α) (k : Nat) : cut xs 0 (k : Int) = xs.take k := by
  unfold cut; rw [Int.toNat_natCast]; rfl
theorem ok_end {n k : Nat} (h : k ≤ n) : okBounds n (k : Int) ((n : Nat) : Int) = true := by unfold okBounds; simp; omega
theorem ok_start {n k : Nat} (h : k ≤ n) : okBounds n 0 (k : Int) = true := by unfold okBounds; simp; omega
theorem fx123 (hG : ∀ f g, G f g = none) (row : List Dart) (hl : row.length ≤ 100000000) : FX G 123 sg123 ((row, ()), ()) = some ((turn row, ()), ()) := by
  refine fx_of (fn := Tryz.f123) (hG _ _) (by kernel_rfl) (by kernel_rfl) ((nf123 _ _ _).trans ?_)
  by_cases h0 : row.length = 0
  · refine cond_T (show (((row.length : Nat) : Int) == 0) = true by simp [h0]) ?_
    have : row = [] := by simpa using h0
    subst this; rfl
  refine cond_F (show (((row.length : Nat) : Int) == 0) = false by rw [beq_eq_false_iff_ne]; omega) ?_
  have hp : 0 < row.length := by omega
  have hm := mini_lt row row 0 0 hp (by omega)
  refine bind_of (fx143141 hG row hp hl) ?_
  refine bind_of (fx134 (hG _ _) row (row.getD (mini row row 0 0) zD) (by omega)) ?_
  rw [idx_mini hp]
  refine cond_T (ok_end (n := row.length) (k := mini row row 0 0) (by omega)) (cond_T (ok_start (n := row.length) (k := mini row row 0 0) (by omega)) ?_)
  have key : ∀ a b : List Dart, a = row.drop (mini row row 0 0) → b = row.take (mini row row 0 0) → ((FX G 143 sg143 (([a, b], ()), ())).bind fun (y3 : (((List Dart) × Unit) × Unit)) => some (y3.1, ())) = some ((turn row, ()), ()) := by
    intro a b ha hb
    subst ha hb
    refine bind_of (fx143 hG [row.drop (mini row row 0 0), row.take (mini row row 0 0)] (by simp) (by unfold total; simp; omega)) ?_
    unfold turn rot
    simp only [List.flatten_cons, List.flatten_nil, List.append_nil]
  exact key _ _ (cut_end row (by omega)) (cut_start row _)
theorem fx135 (hG : ∀ f g, G f g = none) (ls : List (List Dart)) (hn : ls.length ≤ 1000) (hl : total ls ≤ 100000000) : FX G 135 sg135 ((ls, ()), ()) = some ((turn ls.flatten, ()), ()) := by
  refine fx_of (fn := Tryz.f135) (hG _ _) (by kernel_rfl) (by kernel_rfl) ((nf135 _ _ _).trans ?_)
  refine bind_of (fx143 hG ls hn (by omega)) ?_
  have hlen : ls.flatten.length = total ls := by unfold total; exact List.length_flatten
  exact bind_of (fx123 hG ls.flatten (by omega)) rfl

/-! ### Insert, Remove, Swap, Prev -/
theorem erase_one {row : List Dart} {d : Dart} {k : Nat} (hn : row.Nodup) (hk : row[k]? = some d) : row.filter (fun e => decide (e ≠ d)) = row.take k ++ row.drop (k + 1) := by
  obtain ⟨h1, h2⟩ := List.getElem?_eq_some_iff.1 hk
  conv => lhs; rw [← List.take_append_drop k row, List.drop_eq_getElem_cons h1, h2]
  have hn' : (row.take k ++ (d :: row.drop (k + 1))).Nodup := by
    rw [← h2, ← List.drop_eq_getElem_cons h1, List.take_append_drop]; exact hn
  have h3 := List.nodup_append.1 hn'
  have h4 := List.nodup_cons.1 h3.2.1
  rw [List.filter_append, List.filter_cons_of_neg (by simp)]
  congr 1
  · rw [List.filter_eq_self]; intro a ha
    have := h3.2.2 a ha d (by simp)
    simpa using this
  · rw [List.filter_eq_self]; intro a ha
    have : a ≠ d := fun e => h4.1 (e ▸ ha)
    simpa using this
theorem fx119 (hG : ∀ f g, G f g = none) (row : List Dart) (d : Dart) (hn : row.Nodup) (hl : row.length ≤ 50000000) : FX G 119 sg119 ((row, d, ()), ()) = some ((remR row d, ()), ()) := by
  refine fx_of (fn := Tryz.f119) (hG _ _) (by kernel_rfl) (by kernel_rfl) ((nf119 _ _ _).trans ?_)
  refine bind_of (fx134 (hG _ _) row d (by omega)) ?_
  unfold remR
  by_cases hd : d ∈ row
  · obtain ⟨k, h1, h2, h3⟩ := idx_some hd
    have hlt := (List.getElem?_eq_some_iff.1 h2).1
    rw [erase_one hn h2]
    show cond (decide (idx d row 0 < 0)) _ (cond (okBounds row.length 0 (idx d row 0)) (cond (okBounds row.length (IntKind.wrap .i64 (idx d row 0 + 1)) ((row.length : Nat) : Int)) ((FX G 135 sg135 (([cut row 0 (idx d row 0), cut row (IntKind.wrap .i64 (idx d row 0 + 1)) ((row.length : Nat) : Int)], ()), ())).bind fun (y3 : (((List Dart) × Unit) × Unit)) => some (y3.1, ())) none) none) = _
    rw [h1, wrap_up hlt (by omega)]
    refine cond_F (decide_eq_false (by omega)) (cond_T (ok_start (by omega)) (cond_T (ok_end (by omega)) ?_))
    have key : ∀ a b : List Dart, a = row.take k → b = row.drop (k + 1) → ((FX G 135 sg135 (([a, b], ()), ())).bind fun (y3 : (((List Dart) × Unit) × Unit)) => some (y3.1, ())) = some ((turn (row.take k ++ row.drop (k + 1)), ()), ()) := by
      intro a b ha hb
      subst ha hb
      refine bind_of (fx135 hG [row.take k, row.drop (k + 1)] (by simp) (by unfold total; simp; omega)) ?_
      refine congrArg (fun l : List Dart => some ((l, ()), ())) ?_
      simp
    exact key _ _ (cut_start row k) (cut_end row (by omega))
  · have h1 := idx_neg.2 hd
    refine cond_T (decide_eq_true h1) (bind_of (fx123 hG row (by omega)) ?_)
    refine congrArg (fun l : List Dart => some ((l, ()), ())) ?_
    congr 1
    symm
    rw [List.filter_eq_self]; intro a ha
    have : a ≠ d := fun e => hd (e ▸ ha)
    simpa using this
theorem fx121 (hG : ∀ f g, G f g = none) (row : List Dart) (old d : Dart) (hl : row.length ≤ 50000000) : FX G 121 sg121 ((row, old, d, ()), ()) = some ((swapR row old d, ()), ()) := by
  refine fx_of (fn := Tryz.f121) (hG _ _) (by kernel_rfl) (by kernel_rfl) ((nf121 _ _ _).trans ?_)
  refine bind_of (fx134 (hG _ _) row old (by omega)) ?_
  unfold swapR
  by_cases ho : old ∈ row
  · obtain ⟨k, h1, h2, h3⟩ := idx_some ho
    have hlt := (List.getElem?_eq_some_iff.1 h2).1
    refine cond_F (decide_eq_false (show ¬ idx old row 0 < 0 by omega)) ?_
    refine bind_of (fx133 hG row d (by omega)) ?_
    by_cases hd : d ∈ row
    · rw [if_neg (fun h => h.2 hd)]
      exact cond_T (decide_eq_true hd) (bind_of (fx123 hG row (by omega)) rfl)
    rw [if_pos ⟨ho, hd⟩]
    refine cond_F (decide_eq_false hd) ?_
    show cond (okBounds row.length 0 (idx old row 0)) (cond (okBounds row.length (IntKind.wrap .i64 (idx old row 0 + 1)) ((row.length : Nat) : Int)) ((FX G 135 sg135 (([cut row 0 (idx old row 0), [d], cut row (IntKind.wrap .i64 (idx old row 0 + 1)) ((row.length : Nat) : Int)], ()), ())).bind fun (y3 : (((List Dart) × Unit) × Unit)) => some (y3.1, ())) none) none = _
    rw [h1, wrap_up hlt (by omega)]
    refine cond_T (ok_start (by omega)) (cond_T (ok_end (by omega)) ?_)
    have key : ∀ a b R : List Dart, a = row.take k → b = row.drop (k + 1) → R = turn (row.set ((k : Int)).toNat d) → ((FX G 135 sg135 (([a, [d], b], ()), ())).bind fun (y3 : (((List Dart) × Unit) × Unit)) => some (y3.1, ())) = some ((R, ()), ()) := by
      intro a b R ha hb hR
      subst ha hb hR
      refine bind_of (fx135 hG [row.take k, [d], row.drop (k + 1)] (by simp) (by unfold total; simp; omega)) ?_
      refine congrArg (fun l : List Dart => some ((l, ()), ())) ?_
      rw [Int.toNat_natCast, List.set_eq_take_append_cons_drop, if_pos hlt]; simp
    exact key _ _ _ (cut_start row k) (cut_end row (by omega)) rfl
  · have h1 := idx_neg.2 ho
    rw [if_neg (fun h => ho h.1)]
    exact cond_T (decide_eq_true h1) (bind_of (fx123 hG row (by omega)) rfl)
theorem fx140 (hG : ∀ f g, G f g = none) (row : List Dart) (d : Dart) (hl : row.length ≤ 100000000) : FX G 140 sg140 ((row, d, ()), ()) = some (orZ (stepD row d (row.length - 1)), ()) := by
  refine fx_of (fn := Tryz.f140) (hG _ _) (by kernel_rfl) (by kernel_rfl) ((nf140 _ _ _).trans ?_)
  have key : FX G 157 sg157 ((row, (d, ((IntKind.wrap .i64 (((row.length : Nat) : Int) - 1)), ()))), ()) = some (orZ (stepD row d (row.length - 1)), ()) := by
    refine fx_of (fn := Tryz.f157) (hG _ _) (by kernel_rfl) (by kernel_rfl) ((nf157 _ _ _).trans ?_)
    refine bind_of (fx134 (hG _ _) row d (by omega)) ?_
    unfold stepD
    by_cases hd : d ∈ row
    · rw [if_pos hd]
      obtain ⟨k, h1, h2, h3⟩ := idx_some hd
      have hlt := (List.getElem?_eq_some_iff.1 h2).1
      refine cond_F (decide_eq_false (show ¬ idx d row 0 < 0 by omega)) ?_
      refine cond_F (len_ne hd) ?_
      have hw : IntKind.wrap .i64 (((row.length : Nat) : Int) - 1) = ((row.length - 1 : Nat) : Int) := by rw [wrap_small (by omega) (by omega)]; omega
      have hw2 : IntKind.wrap .i64 (idx d row 0 + IntKind.wrap .i64 (((row.length : Nat) : Int) - 1)) = ((k + (row.length - 1) : Nat) : Int) := by
        rw [hw, h1, wrap_small (by omega) (by omega)]; rfl
      have hlt2 : (k + (row.length - 1)) % row.length < row.length := Nat.mod_lt _ (by omega)
      have hx := List.getElem?_eq_getElem hlt2
      refine bind_of (show getI row (Int.tmod (IntKind.wrap .i64 (idx d row 0 + IntKind.wrap .i64 (((row.length : Nat) : Int) - 1))) ((row.length : Nat) : Int)) = some row[(k + (row.length - 1)) % row.length] by rw [hw2, tmod_nat]; exact getI_of hx) ?_
      rw [h1, Int.toNat_natCast, hx]; rfl
    · rw [if_neg hd]
      exact cond_T (decide_eq_true (idx_neg.2 hd)) rfl
  refine bind_of key ?_
  rfl
end Go.Vs
