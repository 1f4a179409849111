/- slices.Insert, slices.Delete, slices.Grow and slices.Clone at rows of one's own; what is asked of the program as a whole. -/
import Derived.Test.YtpldhjjpeldkaaaGreatEngineA
import Derived.Laws.CopyRow
import Derived.Lib.AppendZerosOnto
import Derived.Lib.Overlaps
import Derived.Test.YtpldhjjpeldkaaaGreatProg
import Derived.WalkKit
import Derived.Lib.Walk
import Derived.Shelf.Spec.SlicesInsert
import Derived.Laws.NewBlocks
import Derived.Test.YtpldhjjpeldkaaaGreatEngineC
import Derived.Test.YtpldhjjpeldkaaaGreatEngineB
import Derived.Laws.StructEq
import Derived.Test.YtpldhjjpeldkaaaGreatEngineD
import Derived.KernelRfl

namespace Go.Vs
variable {P : Program} {w : World}

theorem run_copy_rowS (w : World) (dT sT ty elem : TypeId) (sz g o dLen dCap : Nat) (a : Addr) (sLen sCap : Nat) (cur : Array Value) (t : TypeId) (cs : List Value)
    (hu : P.underlying dT = some (.slice elem)) (hs : (P.info? elem).map (·.size) = some sz)
    (hg : w.heap[g]? = some (.cells cur t (0, 0))) (hn : cs.length = Nat.min sLen dLen * sz)
    (hsrc : ∀ (j : Nat) v, cs[j]? = some v → w.cell? (a.add j) = some v) (hfit : o + cs.length ≤ cur.size) (h1 : ∀ v ∈ cs, v.oneCell' = true) :
    (Builtin.copy_ #[dT, sT] ty #[.slice (some ⟨g, o, none⟩) dLen dCap, .slice (some a) sLen sCap]).run P w =
      .ok (goInt (Nat.min sLen dLen)) (w.setRow g (cur.toList.take o ++ cs ++ cur.toList.drop (o + cs.length)).toArray) := by
  have hl := run_loadCells_list (P := P) w a cs hsrc
  have hst := run_storeCells_at P g o t cs 0 cur w hg (by simpa using hfit) h1
  cases hq : P.info? elem with
  | none => simp [hq] at hs
  | some i =>
    have hi : i.size = sz := by simpa [hq] using hs
    simp only [Nat.add_zero] at hst
    simp [Builtin.copy_, run_underlying hu, Builtin.lenOf, Builtin.firstCells, sizeOf, typeInfo, hq, hi, ← hn, hl, hst]

/-- append where there is room, from the row itself or from elsewhere. -/
theorem run_append_roomS (w : World) (t ty e : TypeId) (sz g n c : Nat) (a : Addr) (m mc : Nat) (cur : Array Value) (news : List Value) (ht : P.underlying t = some (.slice e)) (hs : (P.info? e).map (·.size) = some sz)
    (hg : w.heap[g]? = some (.cells cur e (0, 0))) (hl : news.length = m * sz) (hsrc : ∀ (j : Nat) v, news[j]? = some v → w.cell? (a.add j) = some v) (h1 : ∀ v ∈ news, v.oneCell' = true) (hroom : n + m ≤ c) (hsz : c * sz ≤ cur.size) :
    (Builtin.append_ #[t, t] ty #[.slice (some ⟨g, 0, none⟩) n c, .slice (some a) m mc]).run P w = .ok (.slice (some ⟨g, 0, none⟩) (n + m) c) (w.setRow g (cur.toList.take (n * sz) ++ news ++ cur.toList.drop (n * sz + news.length)).toArray) := by
  have hle : n * sz + m * sz ≤ c * sz := by rw [← Nat.add_mul]; exact Nat.mul_le_mul_right _ hroom
  have hload := run_loadCells_list (P := P) w a news hsrc
  have hst := run_storeCells_at P g (n * sz) e news 0 cur w hg (by omega) h1
  simp only [Nat.add_zero] at hst
  have ha : (⟨g, 0, none⟩ : Addr).add (n * sz) = ⟨g, n * sz, none⟩ := by rw [addr_plain, Nat.zero_add]
  cases hq : P.info? e with
  | none => simp [hq] at hs
  | some i =>
    have hi : i.size = sz := by simpa [hq] using hs
    simp [Builtin.append_, run_underlying ht, Builtin.lenOf, Builtin.firstCells, sizeOf, typeInfo, hq, hi, ← hl, hload, hroom, ha, hst]
theorem run_clear_rowS (w : World) (t ty e : TypeId) (sz g o k c : Nat) (cur : Array Value) (i : TypeInfo) (z : Value) (ht : P.underlying t = some (.slice e)) (hi : P.info? e = some i) (hz : i.zero = some z) (hzs : z.cells.size = sz) (h1 : ∀ v ∈ z.cells.toList, v.oneCell' = true)
    (hg : w.heap[g]? = some (.cells cur e (0, 0))) (hk : 0 < k) (hfit : o + k * sz ≤ cur.size) :
    (Builtin.clear_ #[t] ty #[.slice (some ⟨g, o, none⟩) k c]).run P w = .ok (.tuple #[]) (w.setRow g (cur.toList.take o ++ (Builtin.zeroCells z.cells k).toList ++ cur.toList.drop (o + (Builtin.zeroCells z.cells k).toList.length)).toArray) := by
  have hl : (Builtin.zeroCells z.cells k).toList.length = k * sz := by simp [Builtin.zeroCells, hzs]
  have hone : ∀ v ∈ (Builtin.zeroCells z.cells k).toList, v.oneCell' = true := fun v hv => by
    simp only [Builtin.zeroCells, Array.toList_map, List.mem_map] at hv
    obtain ⟨q, hq, rfl⟩ := hv
    have hq' : q < k * z.cells.size := by simpa using hq
    have hp : 0 < z.cells.size := by
      rcases Nat.eq_zero_or_pos z.cells.size with h | h
      · rw [h, Nat.mul_zero] at hq'; omega
      · exact h
    have hlt : q % z.cells.size < z.cells.size := Nat.mod_lt _ hp
    rw [getElem!_pos z.cells _ hlt]
    exact h1 _ (by simp)
  have hst := run_storeCells_at P g o e (Builtin.zeroCells z.cells k).toList 0 cur w hg (by omega) hone
  simp only [Nat.add_zero] at hst
  obtain ⟨m, rfl⟩ : ∃ m, k = m + 1 := ⟨k - 1, by omega⟩
  simp [Builtin.clear_, run_underlying ht, zeroValue, typeInfo, hi, hz, hst]
end Go.Vs

set_option linter.unusedVariables false
set_option linter.unusedSimpArgs false
namespace Go.Vs
open Go.Proofs Go.RowKit

/-- What slices.Insert does with one more element. -/
def InsRun (P : Program) (f : FuncId) (e : TypeId) (size : Nat) : Prop :=
  ∀ (w : World) (v u : Value) (n i : Nat) (xs ys : List Value), OwnR w e size v n xs → OwnR w e size u 1 ys → i ≤ n → n + 1 ≤ most → (∀ b, ob v = some b → ob u ≠ some b) →
    (∀ q ∈ xs, q.oneCell' = true) → (∀ q ∈ ys, q.oneCell' = true) →
    Calls P f #[v, .int .i64 i, u] w fun en w' => ∃ v', en = .returned v' ∧ OwnR w' e size v' (n + 1) (xs.take (i * size) ++ (ys ++ xs.drop (i * size))) ∧ w.grownBy w' (ob v) ∧ (ob v' = ob v ∨ ∀ b, ob v' = some b → w.heap.size ≤ b)

set_option maxHeartbeats 4000000 in
set_option maxRecDepth 100000 in
theorem ins108_end (w : World) (v u : Value) (n : Nat) (xs ys : List Value) (hv : OwnR w 48 5 v n xs) (hu : OwnR w 48 5 u 1 ys) (hm : n + 1 ≤ most) (h1 : ∀ q ∈ ys, q.oneCell' = true) :
    Calls Tryz.prog 108 #[v, .int .i64 n, u] w fun en w' => ∃ v', en = .returned v' ∧ OwnR w' 48 5 v' (n + 1) (xs ++ ys) ∧ w.grownBy w' (ob v) ∧ (ob v' = ob v ∨ ∀ b, ob v' = some b → w.heap.size ≤ b) := by
  have ht : Tryz.prog.underlying 22 = some (.slice 48) := by kernel_rfl
  obtain ⟨i0, z0, he⟩ := elemOk_spec (P := Tryz.prog) (e := 48) (k := .pair (.pair (.int .i64) (.int .i64)) (.pair (.sl (.pair (.pair (.int .i64) (.int .i64)) (.int .i64))) (.pair .str (.int .i64)))) (by kernel_rfl)
  have hsrc : SrcC w 5 u 1 ys := by
    refine ⟨hu.1, h1, .inr ?_⟩
    rcases hu.2 with ⟨h0, _⟩ | ⟨g, cap, cur, rfl, _, hg, _, _, hc, htk⟩
    · cases h0
    · refine ⟨_, _, rfl, fun j q hj => ?_⟩
      rw [addr_plain, Nat.zero_add]
      rw [← htk, List.getElem?_take] at hj
      split at hj
      · simp [World.cell?, hg]; simpa using hj
      · cases hj
  obtain ⟨v', w', hrun, h4, h5, h6⟩ := run_append_any (P := Tryz.prog) (ty := 22) ht he hv hsrc hm
  obtain ⟨A, c, rfl⟩ := hv.slice
  have hnc : n ≤ c := by
    rcases hv.2 with ⟨h0, A, e⟩ | ⟨g, cap, cur, e, hc, h2, h3, _⟩
    · omega
    · cases e; exact h3
  obtain ⟨B, cu, rfl⟩ := hu.slice
  have hn63 : n ≤ 1073741824 := by unfold most at hm; omega
  go_enter Tryz.func108, Tryz.ntmps108
  go_wp2_with (at_builtin; refine Lib.wpList_append_run _ rfl _ _ _ _ rfl _ _ rfl rfl _ _ hrun ?_)
  all_goals go_ret
  all_goals first | exact ⟨_, rfl, h4, h5, h6⟩ | (subst_vars; exact ⟨_, rfl, h4, h5, h6⟩)

theorem ins_list {α : Type} {cur xs ys cur1 cur3 : List α} {i n sz : Nat} (htk : cur.take (n * sz) = xs) (hl : (n + 1) * sz ≤ cur.length) (hy : ys.length = sz) (hi : i ≤ n)
    (h1 : cur1 = cur.take ((i + 1) * sz) ++ xs.drop (i * sz) ++ cur.drop ((i + 1) * sz + (xs.drop (i * sz)).length)) (h3 : cur3 = cur1.take (i * sz) ++ ys ++ cur1.drop (i * sz + ys.length)) :
    cur3.take ((n + 1) * sz) = xs.take (i * sz) ++ (ys ++ xs.drop (i * sz)) := by
  have hab : i * sz ≤ n * sz := Nat.mul_le_mul_right _ hi
  rw [Nat.add_mul, Nat.one_mul] at hl h1 ⊢
  have hxl : xs.length = n * sz := by rw [← htk, List.length_take]; omega
  generalize i * sz = a at *
  generalize n * sz = b at *
  have e1 : cur1.take a = xs.take a := by
    rw [h1, List.append_assoc, List.take_append_of_le_length (by rw [List.length_take]; omega), List.take_take, ← htk, List.take_take]
    congr 1; omega
  have e2 : cur1.drop (a + ys.length) = xs.drop a ++ cur.drop (a + 1 * sz + (xs.drop a).length) := by
    rw [h1, List.append_assoc, Nat.one_mul, hy]
    exact List.drop_left' (by rw [List.length_take]; omega)
  rw [h3, e1, e2, ← List.append_assoc, ← List.append_assoc]
  rw [List.take_left' (by simp only [List.length_append, List.length_take, List.length_drop]; omega)]

theorem row_at {w : World} {e size : Nat} {g n : Nat} {cur : Array Value} {xs : List Value} (hg : w.heap[g]? = some (.cells cur e (0, 0))) (htk : cur.toList.take (n * size) = xs) (o : Nat) : ∀ (j : Nat) q, (xs.drop o)[j]? = some q → w.cell? ((⟨g, o, none⟩ : Addr).add j) = some q := fun j q hj => by
  rw [addr_plain]
  rw [List.getElem?_drop, ← htk, List.getElem?_take] at hj
  split at hj
  · simp [World.cell?, hg]; simpa using hj
  · cases hj

set_option maxHeartbeats 4000000 in
set_option maxRecDepth 100000 in
theorem ins108_shift (w : World) (g c g2 c2 n i : Nat) (xs ys : List Value) (cur cur2 : Array Value) (hg : w.heap[g]? = some (.cells cur 48 (0, 0))) (hsz : cur.size = c * 5) (htk : cur.toList.take (n * 5) = xs) (hxl : xs.length = n * 5)
    (hg2 : w.heap[g2]? = some (.cells cur2 48 (0, 0))) (hsz2 : cur2.size = c2 * 5) (hc2 : 0 < c2) (htk2 : cur2.toList.take (1 * 5) = ys) (hyl : ys.length = 1 * 5) (hne : g2 ≠ g) (hi : i < n) (hroom : n + 1 ≤ c) (hc : c ≤ maxLen)
    (h1 : ∀ q ∈ xs, q.oneCell' = true) (h2 : ∀ q ∈ ys, q.oneCell' = true) :
    Calls Tryz.prog 108 #[.slice (some ⟨g, 0, none⟩) n c, .int .i64 i, .slice (some ⟨g2, 0, none⟩) 1 c2] w fun en w' => en = .returned (.slice (some ⟨g, 0, none⟩) (n + 1) c) ∧
      ∃ cur' : Array Value, w'.heap[g]? = some (.cells cur' 48 (0, 0)) ∧ cur'.size = cur.size ∧ cur'.toList.take ((n + 1) * 5) = xs.take (i * 5) ++ (ys ++ xs.drop (i * 5)) ∧ w.grownBy w' (some g) := by
  have ht : Tryz.prog.underlying 22 = some (.slice 48) := by kernel_rfl
  have hz : (Tryz.prog.info? 48).map (·.size) = some 5 := by kernel_rfl
  have hzs : ∀ w, (Go.sizeOf 48).run Tryz.prog w = .ok 5 w := fun w => by
    cases hq : Tryz.prog.info? 48 with
    | none => rw [hq] at hz; cases hz
    | some i => rw [hq] at hz; simp at hz; simp [sizeOf, typeInfo, hq, hz]
  have hov : ∀ a2 lb cb, (callFunc 128 #[.slice (some ⟨g2, 0, none⟩) 1 c2, .slice (some ⟨g, a2, none⟩) lb cb]).run Tryz.prog w = .ok (.value (.bool false)) w := fun a2 lb cb => by
    rw [run_callFunc_extern Tryz.func128 (by kernel_rfl) (by kernel_rfl) (by kernel_rfl) (e := Extern.SlicesOverlaps.overlaps #[22, 22] #[4]) (by kernel_rfl),
      Lib.run_overlaps_apart w 22 4 48 ht 5 hzs ⟨g2, 0, none⟩ ⟨g, a2, none⟩ 1 c2 lb cb hne 48 48 cur2.size cur.size (by simp [World.shape?, hg2]) (by simp [World.shape?, hg]) (by omega) (by simp [World.frozen?, hg2]) (by simp [World.frozen?, hg2])]
    rfl
  have hys := row_at (size := 5) (n := 1) hg2 htk2 0
  have hxs := row_at (size := 5) (n := n) hg htk (i * 5)
  have h63 : c ≤ 9223372036854775807 := by unfold maxLen at hc; omega
  have hn5 : n * 5 ≤ cur.size := by omega
  obtain ⟨cur1, hcur1⟩ : ∃ cur1 : Array Value, cur1 = (cur.toList.take ((i + 1) * 5) ++ xs.drop (i * 5) ++ cur.toList.drop ((i + 1) * 5 + (xs.drop (i * 5)).length)).toArray := ⟨_, rfl⟩
  have hdl : (xs.drop (i * 5)).length = (n - i) * 5 := by rw [List.length_drop, hxl]; omega
  have hcp1 : ∀ (W : World), W.heap = w.heap → ∀ ty dc sc, (Builtin.copy_ #[22, 22] ty #[.slice (some ⟨g, (i + 1) * 5, none⟩) (n - i) dc, .slice (some ⟨g, i * 5, none⟩) (n + 1 - i) sc]).run Tryz.prog W = .ok (goInt (n - i : Nat)) (W.setRow g cur1) := fun W hW ty dc sc => by
    have := run_copy_rowS (P := Tryz.prog) W 22 22 ty 48 5 g ((i + 1) * 5) (n - i) dc ⟨g, i * 5, none⟩ (n + 1 - i) sc cur 48 (xs.drop (i * 5)) ht hz (by rw [hW]; exact hg) (by rw [hdl]; simp only [Nat.min_def]; split <;> omega)
      (fun j v hj => by have := hxs j v hj; simpa only [World.cell?, hW] using this) (by omega) (fun q hq => h1 q (List.mem_of_mem_drop hq))
    rw [this, hcur1]
    congr 2
    simp only [Nat.min_def]; split <;> omega
  have hs1 : cur1.size = cur.size := by rw [hcur1]; simp; omega
  obtain ⟨cur3, hcur3⟩ : ∃ cur3 : Array Value, cur3 = (cur1.toList.take (i * 5) ++ ys ++ cur1.toList.drop (i * 5 + ys.length)).toArray := ⟨_, rfl⟩
  have hcp2 : ∀ (W : World), W.heap[g]? = some (.cells cur1 48 (0, 0)) → W.heap[g2]? = w.heap[g2]? → ∀ ty dc sc, (Builtin.copy_ #[22, 22] ty #[.slice (some ⟨g, i * 5, none⟩) (n + 1 - i) dc, .slice (some ⟨g2, 0, none⟩) 1 sc]).run Tryz.prog W = .ok (goInt 1) (W.setRow g cur3) := fun W hW hW2 ty dc sc => by
    have := run_copy_rowS (P := Tryz.prog) W 22 22 ty 48 5 g (i * 5) (n + 1 - i) dc ⟨g2, 0, none⟩ 1 sc cur1 48 ys ht hz hW (by rw [hyl]; simp only [Nat.min_def]; split <;> omega)
      (fun j v hj => by have := hys j v (by simpa using hj); simpa only [World.cell?, addr_block, hW2] using this) (by omega) h2
    rw [this, hcur3]
    congr 2
    simp only [Nat.min_def]; split <;> omega
  have hw1 : IntKind.i64.wrap ((i : Int) + 1) = (i : Int) + 1 := by rw [IntKind.wrap_i64]; omega
  have hw2 : IntKind.i64.wrap ((n : Int) + 1) = (n : Int) + 1 := by rw [IntKind.wrap_i64]; omega
  have hb1 : (0 : Int) ≤ (i : Int) + 1 := by omega
  have hin : i ≤ n := by omega
  have htn : ((i : Int) + 1).toNat = i + 1 := by omega
  have hb2 : ¬ (c = i + 1) := by omega
  have hb3 : (i : Int) ≤ (n : Int) + 1 := by omega
  have hb4 : ¬ (c = i) := by omega
  have hz2 : ¬ ((i : Int) = (n : Int)) := by omega
  have hz3 : ¬ ((c : Int) < (n : Int) + 1) := by omega
  have hs3 : cur3.size = cur.size := by rw [hcur3]; simp; omega
  have hfin : cur3.toList.take ((n + 1) * 5) = xs.take (i * 5) ++ (ys ++ xs.drop (i * 5)) := ins_list (sz := 5) (cur1 := cur1.toList) (cur3 := cur3.toList) htk (by simp; omega) (by rw [hyl]) hin (by rw [hcur1]) (by rw [hcur3])
  clear hcur3 hcur1 hdl htk htk2
  have hcp2' := hcp2 (w.drew.setRow g cur1) (setRow_heap w.drew g cur _ 48 _ hg) (_root_.Go.setRow_other w.drew g g2 _ hne)
  have mixed : Tryz.prog.follows .mixedOrders = true := by kernel_rfl
  go_enter Tryz.func108, Tryz.ntmps108
  go_wp2_with (simp only [hov])
  go_region_law (go_loud (refine step_copy_runI rfl _ _ 22 22 rfl (.slice (some ⟨g, (i + 1) * 5, none⟩) (n - i) (c - (i + 1))) (.slice (some ⟨g, i * 5, none⟩) (n + 1 - i) (c - i)) (by simp [Act.eval, Act.put]) (by simp [Act.eval, Act.put]) (hcp1 w.drew rfl 3 (c - (i + 1)) (c - i)) ?_))
  go_wp2_with (simp only [hcp2'])
  go_ret
  refine ⟨rfl, cur3, setRow_heap _ g cur1 _ 48 _ (setRow_heap w.drew g cur _ 48 _ hg), hs3, hfin, ⟨rfl, rfl, rfl, by simp [World.setRow], fun k hk hkg => ?_⟩⟩
  have hk' : k ≠ g := fun e => hkg (by rw [e])
  rw [_root_.Go.setRow_other _ g k _ hk', _root_.Go.setRow_other _ g k _ hk']; rfl

theorem grow_list {α : Type} {row xs ys row2 row3 : List α} {i n sz : Nat} (hA : row.take (i * sz) = xs.take (i * sz)) (hl : (n + 1) * sz ≤ row.length) (hxl : xs.length = n * sz) (hy : ys.length = sz) (hi : i ≤ n)
    (h2 : row2 = row.take (i * sz) ++ ys ++ row.drop (i * sz + ys.length)) (h3 : row3 = row2.take ((i + 1) * sz) ++ xs.drop (i * sz) ++ row2.drop ((i + 1) * sz + (xs.drop (i * sz)).length)) :
    row3.take ((n + 1) * sz) = xs.take (i * sz) ++ (ys ++ xs.drop (i * sz)) := by
  have hab : i * sz ≤ n * sz := Nat.mul_le_mul_right _ hi
  rw [Nat.add_mul, Nat.one_mul] at hl h3 ⊢
  generalize i * sz = a at *
  generalize n * sz = b at *
  have e1 : row2.take (a + 1 * sz) = xs.take a ++ ys := by
    rw [h2, hA, Nat.one_mul]
    exact List.take_left' (by simp only [List.length_append, List.length_take]; omega)
  rw [Nat.one_mul] at e1
  rw [h3, e1]
  rw [List.take_left' (by simp only [List.length_append, List.length_take, List.length_drop]; omega)]
  rw [List.append_assoc]

set_option maxHeartbeats 4000000 in
set_option maxRecDepth 100000 in
theorem ins108_grow (w : World) (g c g2 c2 n i : Nat) (xs ys : List Value) (cur cur2 : Array Value) (hg : w.heap[g]? = some (.cells cur 48 (0, 0))) (hsz : cur.size = c * 5) (htk : cur.toList.take (n * 5) = xs) (hxl : xs.length = n * 5)
    (hg2 : w.heap[g2]? = some (.cells cur2 48 (0, 0))) (hsz2 : cur2.size = c2 * 5) (hc2 : 0 < c2) (htk2 : cur2.toList.take (1 * 5) = ys) (hyl : ys.length = 1 * 5) (hne : g2 ≠ g) (hi : i < n) (hnc : n ≤ c) (hroom : c < n + 1) (hm : n + 1 ≤ most)
    (h1 : ∀ q ∈ xs, q.oneCell' = true) (h2 : ∀ q ∈ ys, q.oneCell' = true) :
    Calls Tryz.prog 108 #[.slice (some ⟨g, 0, none⟩) n c, .int .i64 i, .slice (some ⟨g2, 0, none⟩) 1 c2] w fun en w' => ∃ G, en = .returned (.slice (some ⟨w.heap.size, 0, none⟩) (n + 1) G) ∧
      ∃ cur' : Array Value, w'.heap[w.heap.size]? = some (.cells cur' 48 (0, 0)) ∧ cur'.size = G * 5 ∧ n + 1 ≤ G ∧ G ≤ maxLen ∧ cur'.toList.take ((n + 1) * 5) = xs.take (i * 5) ++ (ys ++ xs.drop (i * 5)) ∧ w.grownBy w' (some g) := by
  have ht : Tryz.prog.underlying 22 = some (.slice 48) := by kernel_rfl
  have htn : Tryz.prog.underlying 3 = some (.int .i64) := by kernel_rfl
  have hz : (Tryz.prog.info? 48).map (·.size) = some 5 := by kernel_rfl
  obtain ⟨i0, z0, he⟩ := elemOk_spec (P := Tryz.prog) (e := 48) (k := .pair (.pair (.int .i64) (.int .i64)) (.pair (.sl (.pair (.pair (.int .i64) (.int .i64)) (.int .i64))) (.pair .str (.int .i64)))) (by kernel_rfl)
  have hzl : z0.cells.size = 5 := he.zsize
  have hzs : i0.size = 5 := he.size
  have hb0 := he.bytes
  have hys := row_at (size := 5) (n := 1) hg2 htk2 0
  have hxs := row_at (size := 5) (n := n) hg htk (i * 5)
  have hxs0 := row_at (size := 5) (n := n) hg htk 0
  have hgl : g < w.heap.size := (Array.getElem?_eq_some_iff.1 hg).1
  have hgl2 : g2 < w.heap.size := (Array.getElem?_eq_some_iff.1 hg2).1
  unfold most at hm
  have hbytes : (n + 1) * i0.bytes ≤ 140737488355328 := Nat.le_trans (Nat.mul_le_mul hm hb0) (by decide)
  have hold : (Builtin.firstCells i0.size i (.slice (some ⟨g, 0, none⟩) i c)).run Tryz.prog w.drew = .ok (xs.take (i * 5)).toArray w.drew := by
    rw [hzs]
    exact run_firstCells_some w.drew 5 i ⟨g, 0, none⟩ i c (xs.take (i * 5)) (by rw [List.length_take]; omega) (fun j v hj => by
      rw [List.getElem?_take] at hj
      split at hj
      · exact hxs0 j v hj
      · cases hj)
  obtain ⟨G, hG⟩ : ∃ G, G = grownCap w (n + 1) c 48 := ⟨_, rfl⟩
  obtain ⟨ROW, hROW⟩ : ∃ ROW : Array Value, ROW = (xs.take (i * 5)).toArray ++ Builtin.zeroCells z0.cells (n + 1 - i) ++ Builtin.zeroCells z0.cells (G - (n + 1)) := ⟨_, rfl⟩
  have hik : i + (n + 1 - i) = n + 1 := by omega
  have hrz : ∀ ty, (Builtin.append_ #[22, 3] ty #[.slice (some ⟨g, 0, none⟩) i c, .int .i64 ((n : Int) + 1 - (i : Int))]).run Tryz.prog w = .ok (.slice (some ⟨w.heap.size, 0, none⟩) (n + 1) G) (w.drew.alloc (.cells ROW 48)) := fun ty => by
    have h := Lib.run_append_grow_zeros w 22 3 ty 48 i0 z0 .i64 .i64 ht htn he.info he.zero (some ⟨g, 0, none⟩) i c (xs.take (i * 5)) hold (n + 1 - i) (by omega) (by omega) (by omega) (by omega)
      (Nat.le_trans (Nat.mul_le_mul_right _ (show n + 1 - i ≤ n + 1 by omega)) (by omega)) (by rw [hik]; exact growslice_fits hroom hbytes)
    rw [hik] at h
    rw [show (n : Int) + 1 - (i : Int) = ((n + 1 - i : Nat) : Int) by omega, hROW, hG]
    exact h
  have hGn : n + 1 ≤ G := by rw [hG]; exact grownCap_ge w _ _ _
  have hG63 : G ≤ 9223372036854775807 := by
    have := grownCap_le_maxLen w (n + 1) c 48 (by unfold maxLen; omega)
    rw [← hG] at this
    unfold maxLen at this
    omega
  have hRs : ROW.size = G * 5 := by
    rw [hROW]
    simp [Builtin.zeroCells, hzl, List.length_take, hxl]
    rw [Nat.min_eq_left (by omega)]; omega
  have hRt : ROW.toList.take (i * 5) = xs.take (i * 5) := by
    rw [hROW]
    simp only [Array.toList_append, List.append_assoc]
    exact List.take_left' (by rw [List.length_take]; omega)
  obtain ⟨W1, hW1⟩ : ∃ W1, W1 = w.drew.alloc (.cells ROW 48) := ⟨_, rfl⟩
  have hW1g : W1.heap[w.heap.size]? = some (.cells ROW 48 (0, 0)) := by rw [hW1]; exact (MapKept.heap_alloc w.drew (.cells ROW 48)).1
  have hW1o : ∀ b, b < w.heap.size → W1.heap[b]? = w.heap[b]? := fun b hb => by rw [hW1]; exact (Below.heap_alloc w.drew (.cells ROW 48) b hb).trans rfl
  have hgW1 : w.grownBy W1 none := ⟨by rw [hW1]; rfl, by rw [hW1]; rfl, by rw [hW1]; rfl, by have := (Array.getElem?_eq_some_iff.1 hW1g).1; omega, fun k hk _ => hW1o k hk⟩
  obtain ⟨row2, hrow2⟩ : ∃ row2 : Array Value, row2 = (ROW.toList.take (i * 5) ++ ys ++ ROW.toList.drop (i * 5 + ys.length)).toArray := ⟨_, rfl⟩
  have hs2 : row2.size = ROW.size := by rw [hrow2]; simp; omega
  have hcpA : ∀ (W : World), W.heap = W1.heap → ∀ ty dc sc, (Builtin.copy_ #[22, 22] ty #[.slice (some ⟨w.heap.size, i * 5, none⟩) (n + 1 - i) dc, .slice (some ⟨g2, 0, none⟩) 1 sc]).run Tryz.prog W = .ok (goInt 1) (W.setRow w.heap.size row2) := fun W hW ty dc sc => by
    have := run_copy_rowS (P := Tryz.prog) W 22 22 ty 48 5 w.heap.size (i * 5) (n + 1 - i) dc ⟨g2, 0, none⟩ 1 sc ROW 48 ys ht hz (by rw [hW]; exact hW1g) (by rw [hyl]; simp only [Nat.min_def]; split <;> omega)
      (fun j v hj => by have := hys j v (by simpa using hj); simpa only [World.cell?, addr_block, hW, hW1o g2 hgl2] using this) (by omega) h2
    rw [this, hrow2]
    congr 2
    simp only [Nat.min_def]; split <;> omega
  obtain ⟨row3, hrow3⟩ : ∃ row3 : Array Value, row3 = (row2.toList.take ((i + 1) * 5) ++ xs.drop (i * 5) ++ row2.toList.drop ((i + 1) * 5 + (xs.drop (i * 5)).length)).toArray := ⟨_, rfl⟩
  have hdl : (xs.drop (i * 5)).length = (n - i) * 5 := by rw [List.length_drop, hxl]; omega
  have hs3 : row3.size = ROW.size := by rw [hrow3]; simp; omega
  have hcpB : ∀ (W : World), W.heap = (W1.setRow w.heap.size row2).heap → ∀ ty dc sc, (Builtin.copy_ #[22, 22] ty #[.slice (some ⟨w.heap.size, (i + 1) * 5, none⟩) (n - i) dc, .slice (some ⟨g, i * 5, none⟩) (n - i) sc]).run Tryz.prog W = .ok (goInt (n - i : Nat)) (W.setRow w.heap.size row3) := fun W hW ty dc sc => by
    have := run_copy_rowS (P := Tryz.prog) W 22 22 ty 48 5 w.heap.size ((i + 1) * 5) (n - i) dc ⟨g, i * 5, none⟩ (n - i) sc row2 48 (xs.drop (i * 5)) ht hz (by rw [hW]; exact setRow_heap W1 w.heap.size ROW _ 48 _ hW1g) (by rw [hdl]; simp only [Nat.min_def]; split <;> omega)
      (fun j v hj => by have := hxs j v hj; simpa only [World.cell?, addr_block, hW, _root_.Go.setRow_other W1 w.heap.size g _ (Nat.ne_of_lt hgl), hW1o g hgl] using this) (by omega) (fun q hq => h1 q (List.mem_of_mem_drop hq))
    rw [this, hrow3]
    congr 2
    simp only [Nat.min_def]; split <;> omega
  have hfin : row3.toList.take ((n + 1) * 5) = xs.take (i * 5) ++ (ys ++ xs.drop (i * 5)) := grow_list (sz := 5) (row := ROW.toList) (row2 := row2.toList) (row3 := row3.toList) hRt (by simp; omega) hxl (by rw [hyl]) (by omega) (by rw [hrow2]) (by rw [hrow3])
  clear hrow3 hrow2 hROW hdl htk htk2 hRt hxs0 hold hG
  have hw1 : IntKind.i64.wrap ((i : Int) + 1) = (i : Int) + 1 := by rw [IntKind.wrap_i64]; omega
  have hw2 : IntKind.i64.wrap ((n : Int) + 1) = (n : Int) + 1 := by rw [IntKind.wrap_i64]; omega
  have hw3 : IntKind.i64.wrap ((n : Int) + 1 - (i : Int)) = (n : Int) + 1 - (i : Int) := by rw [IntKind.wrap_i64]; omega
  have hb1 : (0 : Int) ≤ (i : Int) + 1 := by omega
  have hin : i ≤ n := by omega
  have htn1 : ((i : Int) + 1).toNat = i + 1 := by omega
  have hGi : ¬ (G = i) := by omega
  have hGim : ¬ (G = i + 1) := by omega
  have hci : ¬ (c = i) := by omega
  have hb3 : (i : Int) ≤ (n : Int) := by omega
  have hz2 : ¬ ((i : Int) = (n : Int)) := by omega
  have hz3 : (c : Int) < (n : Int) + 1 := by omega
  rw [← hW1] at hrz
  clear hW1
  have mixed : Tryz.prog.follows .mixedOrders = true := by kernel_rfl
  go_enter Tryz.func108, Tryz.ntmps108
  go_wp2_with (first
    | (at_builtin; refine Lib.wpList_append_run _ rfl _ _ _ _ rfl _ _ rfl rfl _ _ (hrz _) ?_)
    | (at_builtin; refine wpList_copy_runI _ rfl _ _ 22 22 rfl _ _ rfl rfl (hcpA _ (by rfl) _ _ _) ?_))
  go_region_law (go_loud (refine step_copy_runI rfl _ _ 22 22 rfl (.slice (some ⟨w.heap.size, (i + 1) * 5, none⟩) (n - i) (G - (i + 1))) (.slice (some ⟨g, i * 5, none⟩) (n - i) (c - i)) (by simp [Act.eval, Act.put]) (by simp [Act.eval, Act.put]) (hcpB (W1.setRow w.heap.size row2).drew rfl 3 (G - (i + 1)) (c - i)) ?_))
  go_wp2
  go_ret
  refine ⟨G, rfl, row3, setRow_heap _ w.heap.size row2 _ 48 _ (setRow_heap W1 w.heap.size ROW _ 48 _ hW1g), by omega, hGn, hG63, hfin, ⟨hgW1.os, hgW1.tape, hgW1.output, by have := hgW1.size; simpa [World.setRow] using this, fun k hk _ => ?_⟩⟩
  rw [_root_.Go.setRow_other _ w.heap.size k _ (Nat.ne_of_lt hk)]
  exact (_root_.Go.setRow_other W1 w.heap.size k _ (Nat.ne_of_lt hk)).trans (hW1o k hk)

theorem ins108 : InsRun Tryz.prog 108 48 5 := fun w v u n i xs ys hv hu hi hm hap h1 h2 => by
  by_cases he : i = n
  · subst he
    refine (ins108_end w v u i xs ys hv hu hm h2).mono fun en w' ⟨v', e1, e2, e3, e4⟩ => ⟨v', e1, ?_, e3, e4⟩
    have hl := hv.1
    rw [List.take_of_length_le (by omega), List.drop_eq_nil_of_le (by omega), List.append_nil]
    exact e2
  · have hin : i < n := by omega
    rcases hv.2 with ⟨h0, _⟩ | ⟨g, c, cur, rfl, hc0, hg, hnc, hcm, hsz, htk⟩
    · omega
    rcases hu.2 with ⟨h0, _⟩ | ⟨g2, c2, cur2, rfl, hc20, hg2, _, _, hsz2, htk2⟩
    · omega
    have hob : ob (.slice (some ⟨g, 0, none⟩) n c) = some g := by simp only [ob]; rw [if_neg (by omega)]
    have hob2 : ob (.slice (some ⟨g2, 0, none⟩) 1 c2) = some g2 := by simp only [ob]; rw [if_neg (by omega)]
    have hne : g2 ≠ g := fun e => hap g hob (by rw [hob2, e])
    by_cases hroom : n + 1 ≤ c
    · refine (ins108_shift w g c g2 c2 n i xs ys cur cur2 hg hsz htk hv.1 hg2 hsz2 hc20 htk2 hu.1 hne hin hroom hcm h1 h2).mono fun en w' ⟨e1, cur', e2, e3, e4, e5⟩ => ?_
      refine ⟨_, e1, ⟨?_, .inr ⟨g, c, cur', rfl, hc0, e2, hroom, hcm, by rw [e3, hsz], e4⟩⟩, by rw [hob]; exact e5, .inl ?_⟩
      · have hl := hv.1; have hl2 := hu.1
        simp only [List.length_append, List.length_take, List.length_drop]; omega
      · rw [hob]; simp only [ob]; rw [if_neg (by omega)]
    · refine (ins108_grow w g c g2 c2 n i xs ys cur cur2 hg hsz htk hv.1 hg2 hsz2 hc20 htk2 hu.1 hne hin hnc (by omega) hm h1 h2).mono fun en w' ⟨G, e1, cur', e2, e3, e4, e5, e6, e7⟩ => ?_
      refine ⟨_, e1, ⟨?_, .inr ⟨w.heap.size, G, cur', rfl, by omega, e2, e4, e5, e3, e6⟩⟩, by rw [hob]; exact e7, .inr fun b hb => ?_⟩
      · have hl := hv.1; have hl2 := hu.1
        simp only [List.length_append, List.length_take, List.length_drop]; omega
      · simp only [ob] at hb; rw [if_neg (by omega)] at hb; cases hb; omega
end Go.Vs

set_option linter.unusedVariables false
set_option linter.unusedSimpArgs false
namespace Go.Vs
open Go.Proofs Go.RowKit

/-- What slices.Delete does where there is something to take away. -/
def DelRun (P : Program) (f : FuncId) (e : TypeId) (size : Nat) : Prop :=
  ∀ (w : World) (v : Value) (n i j : Nat) (xs : List Value), OwnR w e size v n xs → i < j → j ≤ n → n ≤ most → (∀ q ∈ xs, q.oneCell' = true) →
    Calls P f #[v, .int .i64 i, .int .i64 j] w fun en w' => ∃ v', en = .returned v' ∧ OwnR w' e size v' (i + (n - j)) (xs.take (i * size) ++ xs.drop (j * size)) ∧ w.grownBy w' (ob v) ∧ ob v' = ob v

theorem step_append_run {P : Program} {ops : Array Oper} {o : Oper} {a : Act} {w : World} {K : Act → World → Prop} {Q : Exit → Act → World → Prop} {E : Prop}
    (hg : o.guard = none) (d x : Operand) (dT sT : TypeId) (hop : o.op = Op.call { callee := Callee.builtin Builtin.append, args := #[d, x], argTypes := #[dT, sT] })
    (v u : Value) (hd : a.eval d = v) (hx : a.eval x = u) {v' : Value} {w' : World} (hr : (Builtin.append_ #[dT, sT] o.type #[v, u]).run P w = .ok v' w') (hK : K (a.put o.dst v') w') :
    if Region.wanted o (yielded ops a.tmps) = true then Oper.wp P o a w K Q else E := by
  have hw : Region.wanted o (yielded ops a.tmps) = true := by simp [Region.wanted, hg]
  rw [if_pos hw]
  unfold Oper.wp
  simp [execOp, hop, resolve, invoke, builtin, hd, hx, hr, Result.andThen]
  exact hK

theorem del_list {α : Type} {cur xs cur1 cur2 zs : List α} {i j n sz : Nat} (htk : cur.take (n * sz) = xs) (hl : n * sz ≤ cur.length) (hij : i ≤ j) (hjn : j ≤ n)
    (h1 : cur1 = cur.take (i * sz) ++ xs.drop (j * sz) ++ cur.drop (i * sz + (xs.drop (j * sz)).length)) (h2 : cur2 = cur1.take ((i + (n - j)) * sz) ++ zs ++ cur1.drop ((i + (n - j)) * sz + zs.length)) :
    cur2.take ((i + (n - j)) * sz) = xs.take (i * sz) ++ xs.drop (j * sz) := by
  have ha : i * sz ≤ j * sz := Nat.mul_le_mul_right _ hij
  have hb : j * sz ≤ n * sz := Nat.mul_le_mul_right _ hjn
  rw [Nat.add_mul, Nat.sub_mul] at h2 ⊢
  have hxl : xs.length = n * sz := by rw [← htk, List.length_take]; omega
  generalize i * sz = a at *
  generalize j * sz = b at *
  generalize n * sz = c at *
  have e0 : cur.take a = xs.take a := by rw [← htk, List.take_take]; congr 1; omega
  have e1 : cur1.take (a + (c - b)) = xs.take a ++ xs.drop b := by
    rw [h1, e0]
    exact List.take_left' (by simp only [List.length_append, List.length_take, List.length_drop]; omega)
  rw [h2, e1, List.append_assoc]
  exact List.take_left' (by simp only [List.length_append, List.length_take, List.length_drop]; omega)

set_option maxHeartbeats 4000000 in
set_option maxRecDepth 100000 in
theorem del109_core (w : World) (g c n i j X : Nat) (xs : List Value) (cur : Array Value) (hg : w.heap[g]? = some (.cells cur 48 (0, 0))) (hsz : cur.size = c * 5) (htk : cur.toList.take (n * 5) = xs) (hxl : xs.length = n * 5)
    (hij : i < j) (hjn : j ≤ n) (hnc : n ≤ c) (hc : c ≤ maxLen) (hX : if c = j then X = 0 else X = j * 5)
    (h1 : ∀ q ∈ xs, q.oneCell' = true) :
    Calls Tryz.prog 109 #[.slice (some ⟨g, 0, none⟩) n c, .int .i64 i, .int .i64 j] w fun en w' => en = .returned (.slice (some ⟨g, 0, none⟩) (i + (n - j)) c) ∧
      ∃ cur' : Array Value, w'.heap[g]? = some (.cells cur' 48 (0, 0)) ∧ cur'.size = cur.size ∧ cur'.toList.take ((i + (n - j)) * 5) = xs.take (i * 5) ++ xs.drop (j * 5) ∧ w.grownBy w' (some g) := by
  have ht : Tryz.prog.underlying 22 = some (.slice 48) := by kernel_rfl
  have hz : (Tryz.prog.info? 48).map (·.size) = some 5 := by kernel_rfl
  obtain ⟨zs, hzs⟩ : ∃ zs, zeroA Tryz.prog 48 = some zs := Option.isSome_iff_exists.1 (by kernel_rfl)
  obtain ⟨i0, z0, hi0, hz0, rfl, hz1⟩ := zeroA_spec hzs
  obtain ⟨i1, z1, he⟩ := elemOk_spec (P := Tryz.prog) (e := 48) (k := .pair (.pair (.int .i64) (.int .i64)) (.pair (.sl (.pair (.pair (.int .i64) (.int .i64)) (.int .i64))) (.pair .str (.int .i64)))) (by kernel_rfl)
  have ei : i1 = i0 := by have := he.info; rw [hi0] at this; cases this; rfl
  subst ei
  have ez : z1 = z0 := by have := he.zero; rw [hz0] at this; cases this; rfl
  subst ez
  have hzl : z1.cells.size = 5 := he.zsize
  clear he hzs
  have hdl : (xs.drop (j * 5)).length = (n - j) * 5 := by rw [List.length_drop, hxl]; omega
  obtain ⟨cur1, hcur1⟩ : ∃ cur1 : Array Value, cur1 = (cur.toList.take (i * 5) ++ xs.drop (j * 5) ++ cur.toList.drop (i * 5 + (xs.drop (j * 5)).length)).toArray := ⟨_, rfl⟩
  have hs1 : cur1.size = cur.size := by rw [hcur1]; simp; omega
  have hap : ∀ ty sc, (Builtin.append_ #[22, 22] ty #[.slice (some ⟨g, 0, none⟩) i c, .slice (some ⟨g, X, none⟩) (n - j) sc]).run Tryz.prog w.drew = .ok (.slice (some ⟨g, 0, none⟩) (i + (n - j)) c) (w.drew.setRow g cur1) := fun ty sc => by
    by_cases hcj : c = j
    · have hnj : n = j := by omega
      have : n - j = 0 := by omega
      rw [this] at hdl ⊢
      have hnil : xs.drop (j * 5) = [] := List.eq_nil_of_length_eq_zero (by omega)
      rw [run_append_nothing ht hi0 _ _ _ (by omega) _ _, hcur1, hnil]
      simp only [List.append_nil, List.length_nil, Nat.add_zero, List.take_append_drop, Array.toArray_toList]
      rw [setRow_self w.drew g cur 48 (0, 0) hg]
    · rw [if_neg hcj] at hX
      subst hX
      rw [hcur1]
      exact run_append_roomS (P := Tryz.prog) w.drew 22 ty 48 5 g i c ⟨g, j * 5, none⟩ (n - j) sc cur (xs.drop (j * 5)) ht hz hg hdl (row_at (size := 5) (n := n) (w := w.drew) hg htk (j * 5)) (fun q hq => h1 q (List.mem_of_mem_drop hq)) (by omega) (by omega)
  obtain ⟨cur2, hcur2⟩ : ∃ cur2 : Array Value, cur2 = (cur1.toList.take ((i + (n - j)) * 5) ++ (Builtin.zeroCells z1.cells (j - i)).toList ++ cur1.toList.drop ((i + (n - j)) * 5 + (Builtin.zeroCells z1.cells (j - i)).toList.length)).toArray := ⟨_, rfl⟩
  have hzc : (Builtin.zeroCells z1.cells (j - i)).toList.length = (j - i) * 5 := by simp [Builtin.zeroCells, hzl]
  have hs2 : cur2.size = cur.size := by rw [hcur2]; simp [hzc]; omega
  have hcl : ∀ ty sc, (Builtin.clear_ #[22] ty #[.slice (some ⟨g, (i + (n - j)) * 5, none⟩) (n - (i + (n - j))) sc]).run Tryz.prog (w.drew.setRow g cur1) = .ok (.tuple #[]) ((w.drew.setRow g cur1).setRow g cur2) := fun ty sc => by
    have := run_clear_rowS (P := Tryz.prog) (w.drew.setRow g cur1) 22 ty 48 5 g ((i + (n - j)) * 5) (j - i) sc cur1 i1 z1 ht hi0 hz0 hzl hz1 (setRow_heap w.drew g cur _ 48 _ hg) (by omega) (by omega)
    rw [show n - (i + (n - j)) = j - i by omega, this, hcur2]
  have hfin : cur2.toList.take ((i + (n - j)) * 5) = xs.take (i * 5) ++ xs.drop (j * 5) := del_list (cur1 := cur1.toList) htk (by simp; omega) (by omega) hjn (by rw [hcur1]) (by rw [hcur2])
  clear hcur1 hcur2 htk hdl
  have h63 : c ≤ 9223372036854775807 := by unfold maxLen at hc; omega
  have hin : i ≤ n := by omega
  have hic : ¬ (c = i) := by omega
  have hjc : j ≤ c := by omega
  have hne : ¬ ((i : Int) = (j : Int)) := by omega
  have hil : i ≤ j := by omega
  have hic2 : i ≤ c := by omega
  have hle1 : i + (n - j) ≤ n := by omega
  have hle2 : i + (n - j) ≤ c := by omega
  have hnc2 : ¬ (c = i + (n - j)) := by omega
  have hle3 : (i : Int) + ((n - j : Nat) : Int) ≤ (n : Int) := by omega
  have mixed : Tryz.prog.follows .mixedOrders = true := by kernel_rfl
  by_cases hcj : c = j
  · rw [if_pos hcj] at hX
    subst hX
    subst hcj
    obtain rfl : n = c := by omega
    simp only [Nat.sub_self, Nat.add_zero] at hap hcl hfin ⊢
    go_enter Tryz.func109, Tryz.ntmps109
    go_wp2_with fail
    go_region_law (go_loud (refine step_append_run rfl _ _ 22 22 rfl (.slice (some ⟨g, 0, none⟩) i n) (.slice (some ⟨g, 0, none⟩) 0 0) (by simp [Act.eval, Act.put]) (by simp [Act.eval, Act.put]) (hap 22 0) ?_))
    go_wp2_with (simp only [hcl])
    go_ret
    refine ⟨rfl, cur2, setRow_heap _ g cur1 _ 48 _ (setRow_heap w.drew g cur _ 48 _ hg), hs2, hfin, ⟨rfl, rfl, rfl, by simp [World.setRow], fun k hk hkg => ?_⟩⟩
    have hk' : k ≠ g := fun e => hkg (by rw [e])
    rw [_root_.Go.setRow_other _ g k _ hk', _root_.Go.setRow_other _ g k _ hk']; rfl
  · rw [if_neg hcj] at hX
    subst hX
    go_enter Tryz.func109, Tryz.ntmps109
    go_wp2_with fail
    go_region_law (go_loud (refine step_append_run rfl _ _ 22 22 rfl (.slice (some ⟨g, 0, none⟩) i c) (.slice (some ⟨g, j * 5, none⟩) (n - j) (c - j)) (by simp [Act.eval, Act.put]) (by simp [Act.eval, Act.put]) (hap 22 (c - j)) ?_))
    go_wp2_with (simp only [hcl])
    go_ret
    refine ⟨rfl, cur2, setRow_heap _ g cur1 _ 48 _ (setRow_heap w.drew g cur _ 48 _ hg), hs2, hfin, ⟨rfl, rfl, rfl, by simp [World.setRow], fun k hk hkg => ?_⟩⟩
    have hk' : k ≠ g := fun e => hkg (by rw [e])
    rw [_root_.Go.setRow_other _ g k _ hk', _root_.Go.setRow_other _ g k _ hk']; rfl

theorem del109 : DelRun Tryz.prog 109 48 5 := fun w v n i j xs hv hij hjn hm h1 => by
  rcases hv.2 with ⟨h0, _⟩ | ⟨g, c, cur, rfl, hc0, hg, hnc, hcm, hsz, htk⟩
  · omega
  have hob : ob (.slice (some ⟨g, 0, none⟩) n c) = some g := by simp only [ob]; rw [if_neg (by omega)]
  refine (del109_core w g c n i j (if c = j then 0 else j * 5) xs cur hg hsz htk hv.1 hij hjn hnc hcm (by split <;> rfl) h1).mono fun en w' ⟨e1, cur', e2, e3, e4, e5⟩ => ?_
  refine ⟨_, e1, ⟨?_, .inr ⟨g, c, cur', rfl, hc0, e2, by omega, hcm, by rw [e3, hsz], e4⟩⟩, by rw [hob]; exact e5, ?_⟩
  · have hl := hv.1
    simp only [List.length_append, List.length_take, List.length_drop]; omega
  · rw [hob]; simp only [ob]; rw [if_neg (by omega)]
end Go.Vs

set_option linter.unusedVariables false
namespace Go.Vs
open Go.Proofs
variable {P : Program}

theorem rowV_one {Z : Nat → Prop} {w : World} {k : K} {xs : List k.T} {vs : List Value} (hv : RowV Z w k xs vs) (hl : vs.length = xs.length * k.sz) : ∀ q ∈ vs, q.oneCell' = true := fun q hq => by
  obtain ⟨p, hp⟩ := List.getElem?_of_mem hq
  have hlt : p < vs.length := (List.getElem?_eq_some_iff.1 hp).1
  have hs := k.sz_pos
  have hd : p / k.sz < xs.length := Nat.div_lt_of_lt_mul (by rw [Nat.mul_comm]; omega)
  have hr := hv (p / k.sz) _ (List.getElem?_eq_getElem hd)
  refine hr.one q ?_
  have hm := Nat.mod_add_div p k.sz
  have hml := Nat.mod_lt p hs
  have : ((vs.drop (p / k.sz * k.sz)).take k.sz)[p % k.sz]? = some q := by
    rw [List.getElem?_take, if_pos hml, List.getElem?_drop, Nat.mul_comm, Nat.add_comm, hm, hp]
  exact List.mem_of_getElem? this
theorem rowV_take {Z : Nat → Prop} {w : World} {k : K} {xs : List k.T} {vs : List Value} (hv : RowV Z w k xs vs) (n : Nat) : RowV Z w k (xs.take n) (vs.take (n * k.sz)) := fun i x hx => by
  rw [List.getElem?_take] at hx
  split at hx
  · rename_i hi
    have := hv i x hx
    have e : ((vs.take (n * k.sz)).drop (i * k.sz)).take k.sz = (vs.drop (i * k.sz)).take k.sz := by
      rw [List.drop_take, List.take_take]
      congr 1
      have : (i + 1) * k.sz ≤ n * k.sz := Nat.mul_le_mul_right _ hi
      rw [Nat.add_mul] at this; omega
    rw [e]; exact this
  · cases hx
theorem rowV_drop {Z : Nat → Prop} {w : World} {k : K} {xs : List k.T} {vs : List Value} (hv : RowV Z w k xs vs) (n : Nat) : RowV Z w k (xs.drop n) (vs.drop (n * k.sz)) := fun i x hx => by
  rw [List.getElem?_drop] at hx
  have := hv (n + i) x hx
  rw [List.drop_drop, ← Nat.add_mul]; exact this

theorem insX_sound {f : FuncId} {ty : TypeId} {k : K} (hr : InsRun P f ty k.sz) : XSound P f (insX ty k) := by
  intro Z ψ h w B0 O N hh id e vs us g hB hsub hN hment hwr hvs hms he
  unfold insX at he
  split at he
  rotate_left
  · cases he
  rename_i o i j
  split at he
  rotate_left
  · cases he
  rename_i xs ys hxs hys
  split at he
  · cases he
  rename_i hoj
  simp only [Option.some.injEq, Prod.mk.injEq] at he
  obtain ⟨hok, rfl⟩ := he
  have hhg : hh.get = h := hwr _ _ rfl
  have hgo : hh.get o = some (.own (.row ty k) xs) := ownAt_osl hxs
  have hgj : hh.get j = some (.own (.row ty k) ys) := ownAt_osl hys
  simp only [RepL, Rep] at hvs
  obtain ⟨v, _, rfl, ⟨_, hv⟩, n, _, rfl, rfl, u, _, rfl, ⟨_, hu⟩, rfl⟩ := hvs
  simp only [insOk, Bool.and_eq_true, decide_eq_true_eq, fitsN] at hok
  obtain ⟨h0, h1, h2, h3⟩ := hok
  obtain ⟨m, rfl⟩ : ∃ m : Nat, i = m := ⟨i.toNat, by omega⟩
  subst hhg
  have hvo : v = ψ o := hv (by rw [hgo]; simp)
  have huj : u = ψ j := hu (by rw [hgj]; simp)
  obtain ⟨vs, ho1, hv1⟩ := g.row o (.row ty k) xs hgo
  obtain ⟨us', ho2, hv2⟩ := g.row j (.row ty k) ys hgj
  simp only [MentL, Ment] at hms
  have hid : N id := hN 0 (by omega)
  have hne : o ≠ id := fun e => hms.1 (e ▸ hid)
  rw [h2] at ho2
  subst hvo; subst huj
  refine (hr w _ _ xs.length m vs us' ho1 ho2 (by omega) (by omega) (fun b hb hb2 => hoj (g.apart o j b (by rw [hgo]; simp) (by rw [hgj]; simp) hb hb2)) (rowV_one hv1 ho1.1) (rowV_one hv2 (by rw [ho2.1, h2]))).mono fun en w' ⟨v', e1, e2, e3, e4⟩ => ?_
  have kk : Keep ψ hh.get w w' := Keep.grown e3 (fun b e => ⟨o, by rw [hgo]; simp, e⟩)
  have sm := kk.same g
  have hlen : (insRow xs (m : Int) ys).length = xs.length + 1 := by
    simp only [insRow, Int.toNat_natCast, List.length_append, List.length_take, List.length_drop]; omega
  have htl : (vs.take (m * k.sz)).length = (xs.take m).length * k.sz := by
    have : m * k.sz ≤ xs.length * k.sz := Nat.mul_le_mul_right _ (by omega)
    rw [List.length_take, List.length_take, ho1.1, Nat.min_eq_left this, Nat.min_eq_left (by omega)]
  have hrow : RowV Z w k (insRow xs (m : Int) ys) (vs.take (m * k.sz) ++ (us' ++ vs.drop (m * k.sz))) := (rowV_take hv1 m).append (hv2.append (rowV_drop hv1 m) (by rw [ho2.1, h2])) htl
  have hnx := next_regrow (N := N) g hB id o hid hgo hne e3 (v := v') (ok := .row ty k) (y := insRow xs m ys)
    ⟨_, by rw [hlen]; exact e2, hrow.elim2 sm⟩ e4 (fun i ty cs hb => MentL.imp (p := fun i => ¬ N i) (q := fun i => i ≠ id) (fun a ha e => ha (by rw [e]; exact hid)) (hment i ty cs hb))
  have hhp : Heap.get ((id, Ob.own (.row ty k) (insRow xs (m : Int) ys)) :: hh.del o) = upd (upd hh.get o none) id (some (.own (.row ty k) (insRow xs m ys))) := by rw [get_cons, get_del]
  refine ⟨v', Z, upd ψ id v', e1, ?_, ?_⟩
  · show Next Z ψ hh.get w B0 O N Z (upd ψ id v') (Heap.get ((id, Ob.own (.row ty k) (insRow xs (m : Int) ys)) :: hh.del o)) w'
    rw [hhp]; exact hnx
  · simp only [Eff.v, Rep]
    exact ⟨e2.one, fun _ => (upd_self _ _ _).symm⟩

theorem delX_sound {f : FuncId} {ty : TypeId} {k : K} (hr : DelRun P f ty k.sz) : XSound P f (delX ty k) := by
  intro Z ψ h w B0 O N hh id e vs us g hB hsub hN hment hwr hvs hms he
  unfold delX at he
  split at he
  rotate_left
  · cases he
  rename_i o i j
  split at he
  rotate_left
  · cases he
  rename_i xs hxs
  simp only [Option.some.injEq, Prod.mk.injEq] at he
  obtain ⟨hok, rfl⟩ := he
  have hhg : hh.get = h := hwr _ _ rfl
  have hgo : hh.get o = some (.own (.row ty k) xs) := ownAt_osl hxs
  simp only [RepL, Rep] at hvs
  obtain ⟨v, _, rfl, ⟨_, hv⟩, n, _, rfl, rfl, u, _, rfl, rfl, rfl⟩ := hvs
  simp only [delOk, Bool.and_eq_true, decide_eq_true_eq, fitsN] at hok
  obtain ⟨h0, h1, h2, h3⟩ := hok
  obtain ⟨m, rfl⟩ : ∃ m : Nat, i = m := ⟨i.toNat, by omega⟩
  obtain ⟨q, rfl⟩ : ∃ m : Nat, j = m := ⟨j.toNat, by omega⟩
  subst hhg
  have hvo : v = ψ o := hv (by rw [hgo]; simp)
  obtain ⟨vs, ho1, hv1⟩ := g.row o (.row ty k) xs hgo
  simp only [MentL, Ment] at hms
  have hid : N id := hN 0 (by omega)
  have hne : o ≠ id := fun e => hms.1 (e ▸ hid)
  subst hvo
  refine (hr w _ xs.length m q vs ho1 (by omega) (by omega) (by omega) (rowV_one hv1 ho1.1)).mono fun en w' ⟨v', e1, e2, e3, e4⟩ => ?_
  have kk : Keep ψ hh.get w w' := Keep.grown e3 (fun b e => ⟨o, by rw [hgo]; simp, e⟩)
  have sm := kk.same g
  have hlen : (delRow xs (m : Int) q).length = m + (xs.length - q) := by
    simp only [delRow, Int.toNat_natCast, List.length_append, List.length_take, List.length_drop]; omega
  have htl : (vs.take (m * k.sz)).length = (xs.take m).length * k.sz := by
    have : m * k.sz ≤ xs.length * k.sz := Nat.mul_le_mul_right _ (by omega)
    rw [List.length_take, List.length_take, ho1.1, Nat.min_eq_left this, Nat.min_eq_left (by omega)]
  have hrow : RowV Z w k (delRow xs (m : Int) q) (vs.take (m * k.sz) ++ vs.drop (q * k.sz)) := (rowV_take hv1 m).append (rowV_drop hv1 q) htl
  have hnx := next_regrow (N := N) g hB id o hid hgo hne e3 (v := v') (ok := .row ty k) (y := delRow xs m q)
    ⟨_, by rw [hlen]; exact e2, hrow.elim2 sm⟩ (.inl e4) (fun i ty cs hb => MentL.imp (p := fun i => ¬ N i) (q := fun i => i ≠ id) (fun a ha e => ha (by rw [e]; exact hid)) (hment i ty cs hb))
  have hhp : Heap.get ((id, Ob.own (.row ty k) (delRow xs (m : Int) q)) :: hh.del o) = upd (upd hh.get o none) id (some (.own (.row ty k) (delRow xs m q))) := by rw [get_cons, get_del]
  refine ⟨v', Z, upd ψ id v', e1, ?_, ?_⟩
  · show Next Z ψ hh.get w B0 O N Z (upd ψ id v') (Heap.get ((id, Ob.own (.row ty k) (delRow xs (m : Int) q)) :: hh.del o)) w'
    rw [hhp]; exact hnx
  · simp only [Eff.v, Rep]
    exact ⟨e2.one, fun _ => (upd_self _ _ _).symm⟩
end Go.Vs

set_option linter.unusedVariables false
set_option linter.unusedSimpArgs false
namespace Go.Vs
open Go.Proofs Go.RowKit

set_option maxHeartbeats 4000000 in
set_option maxRecDepth 100000 in
theorem ins130_end (w : World) (v u : Value) (n : Nat) (xs ys : List Value) (hv : OwnR w 56 4 v n xs) (hu : OwnR w 56 4 u 1 ys) (hm : n + 1 ≤ most) (h1 : ∀ q ∈ ys, q.oneCell' = true) :
    Calls Tryz.prog 130 #[v, .int .i64 n, u] w fun en w' => ∃ v', en = .returned v' ∧ OwnR w' 56 4 v' (n + 1) (xs ++ ys) ∧ w.grownBy w' (ob v) ∧ (ob v' = ob v ∨ ∀ b, ob v' = some b → w.heap.size ≤ b) := by
  have ht : Tryz.prog.underlying 23 = some (.slice 56) := by kernel_rfl
  obtain ⟨i0, z0, he⟩ := elemOk_spec (P := Tryz.prog) (e := 56) (k := .pair (.pair (.int .i64) (.int .i64)) (.pair .str (.int .i64))) (by kernel_rfl)
  have hsrc : SrcC w 4 u 1 ys := by
    refine ⟨hu.1, h1, .inr ?_⟩
    rcases hu.2 with ⟨h0, _⟩ | ⟨g, cap, cur, rfl, _, hg, _, _, hc, htk⟩
    · cases h0
    · refine ⟨_, _, rfl, fun j q hj => ?_⟩
      rw [addr_plain, Nat.zero_add]
      rw [← htk, List.getElem?_take] at hj
      split at hj
      · simp [World.cell?, hg]; simpa using hj
      · cases hj
  obtain ⟨v', w', hrun, h4, h5, h6⟩ := run_append_any (P := Tryz.prog) (ty := 23) ht he hv hsrc hm
  obtain ⟨A, c, rfl⟩ := hv.slice
  have hnc : n ≤ c := by
    rcases hv.2 with ⟨h0, A, e⟩ | ⟨g, cap, cur, e, hc, h2, h3, _⟩
    · omega
    · cases e; exact h3
  obtain ⟨B, cu, rfl⟩ := hu.slice
  have hn63 : n ≤ 1073741824 := by unfold most at hm; omega
  go_enter Tryz.func130, Tryz.ntmps130
  go_wp2_with (at_builtin; refine Lib.wpList_append_run _ rfl _ _ _ _ rfl _ _ rfl rfl _ _ hrun ?_)
  all_goals go_ret
  all_goals first | exact ⟨_, rfl, h4, h5, h6⟩ | (subst_vars; exact ⟨_, rfl, h4, h5, h6⟩)

set_option maxHeartbeats 4000000 in
set_option maxRecDepth 100000 in
theorem ins130_shift (w : World) (g c g2 c2 n i : Nat) (xs ys : List Value) (cur cur2 : Array Value) (hg : w.heap[g]? = some (.cells cur 56 (0, 0))) (hsz : cur.size = c * 4) (htk : cur.toList.take (n * 4) = xs) (hxl : xs.length = n * 4)
    (hg2 : w.heap[g2]? = some (.cells cur2 56 (0, 0))) (hsz2 : cur2.size = c2 * 4) (hc2 : 0 < c2) (htk2 : cur2.toList.take (1 * 4) = ys) (hyl : ys.length = 1 * 4) (hne : g2 ≠ g) (hi : i < n) (hroom : n + 1 ≤ c) (hc : c ≤ maxLen)
    (h1 : ∀ q ∈ xs, q.oneCell' = true) (h2 : ∀ q ∈ ys, q.oneCell' = true) :
    Calls Tryz.prog 130 #[.slice (some ⟨g, 0, none⟩) n c, .int .i64 i, .slice (some ⟨g2, 0, none⟩) 1 c2] w fun en w' => en = .returned (.slice (some ⟨g, 0, none⟩) (n + 1) c) ∧
      ∃ cur' : Array Value, w'.heap[g]? = some (.cells cur' 56 (0, 0)) ∧ cur'.size = cur.size ∧ cur'.toList.take ((n + 1) * 4) = xs.take (i * 4) ++ (ys ++ xs.drop (i * 4)) ∧ w.grownBy w' (some g) := by
  have ht : Tryz.prog.underlying 23 = some (.slice 56) := by kernel_rfl
  have hz : (Tryz.prog.info? 56).map (·.size) = some 4 := by kernel_rfl
  have hzs : ∀ w, (Go.sizeOf 56).run Tryz.prog w = .ok 4 w := fun w => by
    cases hq : Tryz.prog.info? 56 with
    | none => rw [hq] at hz; cases hz
    | some i => rw [hq] at hz; simp at hz; simp [sizeOf, typeInfo, hq, hz]
  have hov : ∀ a2 lb cb, (callFunc 147 #[.slice (some ⟨g2, 0, none⟩) 1 c2, .slice (some ⟨g, a2, none⟩) lb cb]).run Tryz.prog w = .ok (.value (.bool false)) w := fun a2 lb cb => by
    rw [run_callFunc_extern Tryz.func147 (by kernel_rfl) (by kernel_rfl) (by kernel_rfl) (e := Extern.SlicesOverlaps.overlaps #[23, 23] #[4]) (by kernel_rfl),
      Lib.run_overlaps_apart w 23 4 56 ht 4 hzs ⟨g2, 0, none⟩ ⟨g, a2, none⟩ 1 c2 lb cb hne 56 56 cur2.size cur.size (by simp [World.shape?, hg2]) (by simp [World.shape?, hg]) (by omega) (by simp [World.frozen?, hg2]) (by simp [World.frozen?, hg2])]
    rfl
  have hys := row_at (size := 4) (n := 1) hg2 htk2 0
  have hxs := row_at (size := 4) (n := n) hg htk (i * 4)
  have h63 : c ≤ 9223372036854775807 := by unfold maxLen at hc; omega
  have hn5 : n * 4 ≤ cur.size := by omega
  obtain ⟨cur1, hcur1⟩ : ∃ cur1 : Array Value, cur1 = (cur.toList.take ((i + 1) * 4) ++ xs.drop (i * 4) ++ cur.toList.drop ((i + 1) * 4 + (xs.drop (i * 4)).length)).toArray := ⟨_, rfl⟩
  have hdl : (xs.drop (i * 4)).length = (n - i) * 4 := by rw [List.length_drop, hxl]; omega
  have hcp1 : ∀ (W : World), W.heap = w.heap → ∀ ty dc sc, (Builtin.copy_ #[23, 23] ty #[.slice (some ⟨g, (i + 1) * 4, none⟩) (n - i) dc, .slice (some ⟨g, i * 4, none⟩) (n + 1 - i) sc]).run Tryz.prog W = .ok (goInt (n - i : Nat)) (W.setRow g cur1) := fun W hW ty dc sc => by
    have := run_copy_rowS (P := Tryz.prog) W 23 23 ty 56 4 g ((i + 1) * 4) (n - i) dc ⟨g, i * 4, none⟩ (n + 1 - i) sc cur 56 (xs.drop (i * 4)) ht hz (by rw [hW]; exact hg) (by rw [hdl]; simp only [Nat.min_def]; split <;> omega)
      (fun j v hj => by have := hxs j v hj; simpa only [World.cell?, hW] using this) (by omega) (fun q hq => h1 q (List.mem_of_mem_drop hq))
    rw [this, hcur1]
    congr 2
    simp only [Nat.min_def]; split <;> omega
  have hs1 : cur1.size = cur.size := by rw [hcur1]; simp; omega
  obtain ⟨cur3, hcur3⟩ : ∃ cur3 : Array Value, cur3 = (cur1.toList.take (i * 4) ++ ys ++ cur1.toList.drop (i * 4 + ys.length)).toArray := ⟨_, rfl⟩
  have hcp2 : ∀ (W : World), W.heap[g]? = some (.cells cur1 56 (0, 0)) → W.heap[g2]? = w.heap[g2]? → ∀ ty dc sc, (Builtin.copy_ #[23, 23] ty #[.slice (some ⟨g, i * 4, none⟩) (n + 1 - i) dc, .slice (some ⟨g2, 0, none⟩) 1 sc]).run Tryz.prog W = .ok (goInt 1) (W.setRow g cur3) := fun W hW hW2 ty dc sc => by
    have := run_copy_rowS (P := Tryz.prog) W 23 23 ty 56 4 g (i * 4) (n + 1 - i) dc ⟨g2, 0, none⟩ 1 sc cur1 56 ys ht hz hW (by rw [hyl]; simp only [Nat.min_def]; split <;> omega)
      (fun j v hj => by have := hys j v (by simpa using hj); simpa only [World.cell?, addr_block, hW2] using this) (by omega) h2
    rw [this, hcur3]
    congr 2
    simp only [Nat.min_def]; split <;> omega
  have hw1 : IntKind.i64.wrap ((i : Int) + 1) = (i : Int) + 1 := by rw [IntKind.wrap_i64]; omega
  have hw2 : IntKind.i64.wrap ((n : Int) + 1) = (n : Int) + 1 := by rw [IntKind.wrap_i64]; omega
  have hb1 : (0 : Int) ≤ (i : Int) + 1 := by omega
  have hin : i ≤ n := by omega
  have htn : ((i : Int) + 1).toNat = i + 1 := by omega
  have hb2 : ¬ (c = i + 1) := by omega
  have hb3 : (i : Int) ≤ (n : Int) + 1 := by omega
  have hb4 : ¬ (c = i) := by omega
  have hz2 : ¬ ((i : Int) = (n : Int)) := by omega
  have hz3 : ¬ ((c : Int) < (n : Int) + 1) := by omega
  have hs3 : cur3.size = cur.size := by rw [hcur3]; simp; omega
  have hfin : cur3.toList.take ((n + 1) * 4) = xs.take (i * 4) ++ (ys ++ xs.drop (i * 4)) := ins_list (sz := 4) (cur1 := cur1.toList) (cur3 := cur3.toList) htk (by simp; omega) (by rw [hyl]) hin (by rw [hcur1]) (by rw [hcur3])
  clear hcur3 hcur1 hdl htk htk2
  have hcp2' := hcp2 (w.drew.setRow g cur1) (setRow_heap w.drew g cur _ 56 _ hg) (_root_.Go.setRow_other w.drew g g2 _ hne)
  have mixed : Tryz.prog.follows .mixedOrders = true := by kernel_rfl
  go_enter Tryz.func130, Tryz.ntmps130
  go_wp2_with (simp only [hov])
  go_region_law (go_loud (refine step_copy_runI rfl _ _ 23 23 rfl (.slice (some ⟨g, (i + 1) * 4, none⟩) (n - i) (c - (i + 1))) (.slice (some ⟨g, i * 4, none⟩) (n + 1 - i) (c - i)) (by simp [Act.eval, Act.put]) (by simp [Act.eval, Act.put]) (hcp1 w.drew rfl 3 (c - (i + 1)) (c - i)) ?_))
  go_wp2_with (simp only [hcp2'])
  go_ret
  refine ⟨rfl, cur3, setRow_heap _ g cur1 _ 56 _ (setRow_heap w.drew g cur _ 56 _ hg), hs3, hfin, ⟨rfl, rfl, rfl, by simp [World.setRow], fun k hk hkg => ?_⟩⟩
  have hk' : k ≠ g := fun e => hkg (by rw [e])
  rw [_root_.Go.setRow_other _ g k _ hk', _root_.Go.setRow_other _ g k _ hk']; rfl

set_option maxHeartbeats 4000000 in
set_option maxRecDepth 100000 in
theorem ins130_grow (w : World) (g c g2 c2 n i : Nat) (xs ys : List Value) (cur cur2 : Array Value) (hg : w.heap[g]? = some (.cells cur 56 (0, 0))) (hsz : cur.size = c * 4) (htk : cur.toList.take (n * 4) = xs) (hxl : xs.length = n * 4)
    (hg2 : w.heap[g2]? = some (.cells cur2 56 (0, 0))) (hsz2 : cur2.size = c2 * 4) (hc2 : 0 < c2) (htk2 : cur2.toList.take (1 * 4) = ys) (hyl : ys.length = 1 * 4) (hne : g2 ≠ g) (hi : i < n) (hnc : n ≤ c) (hroom : c < n + 1) (hm : n + 1 ≤ most)
    (h1 : ∀ q ∈ xs, q.oneCell' = true) (h2 : ∀ q ∈ ys, q.oneCell' = true) :
    Calls Tryz.prog 130 #[.slice (some ⟨g, 0, none⟩) n c, .int .i64 i, .slice (some ⟨g2, 0, none⟩) 1 c2] w fun en w' => ∃ G, en = .returned (.slice (some ⟨w.heap.size, 0, none⟩) (n + 1) G) ∧
      ∃ cur' : Array Value, w'.heap[w.heap.size]? = some (.cells cur' 56 (0, 0)) ∧ cur'.size = G * 4 ∧ n + 1 ≤ G ∧ G ≤ maxLen ∧ cur'.toList.take ((n + 1) * 4) = xs.take (i * 4) ++ (ys ++ xs.drop (i * 4)) ∧ w.grownBy w' (some g) := by
  have ht : Tryz.prog.underlying 23 = some (.slice 56) := by kernel_rfl
  have htn : Tryz.prog.underlying 3 = some (.int .i64) := by kernel_rfl
  have hz : (Tryz.prog.info? 56).map (·.size) = some 4 := by kernel_rfl
  obtain ⟨i0, z0, he⟩ := elemOk_spec (P := Tryz.prog) (e := 56) (k := .pair (.pair (.int .i64) (.int .i64)) (.pair .str (.int .i64))) (by kernel_rfl)
  have hzl : z0.cells.size = 4 := he.zsize
  have hzs : i0.size = 4 := he.size
  have hb0 := he.bytes
  have hys := row_at (size := 4) (n := 1) hg2 htk2 0
  have hxs := row_at (size := 4) (n := n) hg htk (i * 4)
  have hxs0 := row_at (size := 4) (n := n) hg htk 0
  have hgl : g < w.heap.size := (Array.getElem?_eq_some_iff.1 hg).1
  have hgl2 : g2 < w.heap.size := (Array.getElem?_eq_some_iff.1 hg2).1
  unfold most at hm
  have hbytes : (n + 1) * i0.bytes ≤ 140737488355328 := Nat.le_trans (Nat.mul_le_mul hm hb0) (by decide)
  have hold : (Builtin.firstCells i0.size i (.slice (some ⟨g, 0, none⟩) i c)).run Tryz.prog w.drew = .ok (xs.take (i * 4)).toArray w.drew := by
    rw [hzs]
    exact run_firstCells_some w.drew 4 i ⟨g, 0, none⟩ i c (xs.take (i * 4)) (by rw [List.length_take]; omega) (fun j v hj => by
      rw [List.getElem?_take] at hj
      split at hj
      · exact hxs0 j v hj
      · cases hj)
  obtain ⟨G, hG⟩ : ∃ G, G = grownCap w (n + 1) c 56 := ⟨_, rfl⟩
  obtain ⟨ROW, hROW⟩ : ∃ ROW : Array Value, ROW = (xs.take (i * 4)).toArray ++ Builtin.zeroCells z0.cells (n + 1 - i) ++ Builtin.zeroCells z0.cells (G - (n + 1)) := ⟨_, rfl⟩
  have hik : i + (n + 1 - i) = n + 1 := by omega
  have hrz : ∀ ty, (Builtin.append_ #[23, 3] ty #[.slice (some ⟨g, 0, none⟩) i c, .int .i64 ((n : Int) + 1 - (i : Int))]).run Tryz.prog w = .ok (.slice (some ⟨w.heap.size, 0, none⟩) (n + 1) G) (w.drew.alloc (.cells ROW 56)) := fun ty => by
    have h := Lib.run_append_grow_zeros w 23 3 ty 56 i0 z0 .i64 .i64 ht htn he.info he.zero (some ⟨g, 0, none⟩) i c (xs.take (i * 4)) hold (n + 1 - i) (by omega) (by omega) (by omega) (by omega)
      (Nat.le_trans (Nat.mul_le_mul_right _ (show n + 1 - i ≤ n + 1 by omega)) (by omega)) (by rw [hik]; exact growslice_fits hroom hbytes)
    rw [hik] at h
    rw [show (n : Int) + 1 - (i : Int) = ((n + 1 - i : Nat) : Int) by omega, hROW, hG]
    exact h
  have hGn : n + 1 ≤ G := by rw [hG]; exact grownCap_ge w _ _ _
  have hG63 : G ≤ 9223372036854775807 := by
    have := grownCap_le_maxLen w (n + 1) c 56 (by unfold maxLen; omega)
    rw [← hG] at this
    unfold maxLen at this
    omega
  have hRs : ROW.size = G * 4 := by
    rw [hROW]
    simp [Builtin.zeroCells, hzl, List.length_take, hxl]
    rw [Nat.min_eq_left (by omega)]; omega
  have hRt : ROW.toList.take (i * 4) = xs.take (i * 4) := by
    rw [hROW]
    simp only [Array.toList_append, List.append_assoc]
    exact List.take_left' (by rw [List.length_take]; omega)
  obtain ⟨W1, hW1⟩ : ∃ W1, W1 = w.drew.alloc (.cells ROW 56) := ⟨_, rfl⟩
  have hW1g : W1.heap[w.heap.size]? = some (.cells ROW 56 (0, 0)) := by rw [hW1]; exact (MapKept.heap_alloc w.drew (.cells ROW 56)).1
  have hW1o : ∀ b, b < w.heap.size → W1.heap[b]? = w.heap[b]? := fun b hb => by rw [hW1]; exact (Below.heap_alloc w.drew (.cells ROW 56) b hb).trans rfl
  have hgW1 : w.grownBy W1 none := ⟨by rw [hW1]; rfl, by rw [hW1]; rfl, by rw [hW1]; rfl, by have := (Array.getElem?_eq_some_iff.1 hW1g).1; omega, fun k hk _ => hW1o k hk⟩
  obtain ⟨row2, hrow2⟩ : ∃ row2 : Array Value, row2 = (ROW.toList.take (i * 4) ++ ys ++ ROW.toList.drop (i * 4 + ys.length)).toArray := ⟨_, rfl⟩
  have hs2 : row2.size = ROW.size := by rw [hrow2]; simp; omega
  have hcpA : ∀ (W : World), W.heap = W1.heap → ∀ ty dc sc, (Builtin.copy_ #[23, 23] ty #[.slice (some ⟨w.heap.size, i * 4, none⟩) (n + 1 - i) dc, .slice (some ⟨g2, 0, none⟩) 1 sc]).run Tryz.prog W = .ok (goInt 1) (W.setRow w.heap.size row2) := fun W hW ty dc sc => by
    have := run_copy_rowS (P := Tryz.prog) W 23 23 ty 56 4 w.heap.size (i * 4) (n + 1 - i) dc ⟨g2, 0, none⟩ 1 sc ROW 56 ys ht hz (by rw [hW]; exact hW1g) (by rw [hyl]; simp only [Nat.min_def]; split <;> omega)
      (fun j v hj => by have := hys j v (by simpa using hj); simpa only [World.cell?, addr_block, hW, hW1o g2 hgl2] using this) (by omega) h2
    rw [this, hrow2]
    congr 2
    simp only [Nat.min_def]; split <;> omega
  obtain ⟨row3, hrow3⟩ : ∃ row3 : Array Value, row3 = (row2.toList.take ((i + 1) * 4) ++ xs.drop (i * 4) ++ row2.toList.drop ((i + 1) * 4 + (xs.drop (i * 4)).length)).toArray := ⟨_, rfl⟩
  have hdl : (xs.drop (i * 4)).length = (n - i) * 4 := by rw [List.length_drop, hxl]; omega
  have hs3 : row3.size = ROW.size := by rw [hrow3]; simp; omega
  have hcpB : ∀ (W : World), W.heap = (W1.setRow w.heap.size row2).heap → ∀ ty dc sc, (Builtin.copy_ #[23, 23] ty #[.slice (some ⟨w.heap.size, (i + 1) * 4, none⟩) (n - i) dc, .slice (some ⟨g, i * 4, none⟩) (n - i) sc]).run Tryz.prog W = .ok (goInt (n - i : Nat)) (W.setRow w.heap.size row3) := fun W hW ty dc sc => by
    have := run_copy_rowS (P := Tryz.prog) W 23 23 ty 56 4 w.heap.size ((i + 1) * 4) (n - i) dc ⟨g, i * 4, none⟩ (n - i) sc row2 56 (xs.drop (i * 4)) ht hz (by rw [hW]; exact setRow_heap W1 w.heap.size ROW _ 56 _ hW1g) (by rw [hdl]; simp only [Nat.min_def]; split <;> omega)
      (fun j v hj => by have := hxs j v hj; simpa only [World.cell?, addr_block, hW, _root_.Go.setRow_other W1 w.heap.size g _ (Nat.ne_of_lt hgl), hW1o g hgl] using this) (by omega) (fun q hq => h1 q (List.mem_of_mem_drop hq))
    rw [this, hrow3]
    congr 2
    simp only [Nat.min_def]; split <;> omega
  have hfin : row3.toList.take ((n + 1) * 4) = xs.take (i * 4) ++ (ys ++ xs.drop (i * 4)) := grow_list (sz := 4) (row := ROW.toList) (row2 := row2.toList) (row3 := row3.toList) hRt (by simp; omega) hxl (by rw [hyl]) (by omega) (by rw [hrow2]) (by rw [hrow3])
  clear hrow3 hrow2 hROW hdl htk htk2 hRt hxs0 hold hG
  have hw1 : IntKind.i64.wrap ((i : Int) + 1) = (i : Int) + 1 := by rw [IntKind.wrap_i64]; omega
  have hw2 : IntKind.i64.wrap ((n : Int) + 1) = (n : Int) + 1 := by rw [IntKind.wrap_i64]; omega
  have hw3 : IntKind.i64.wrap ((n : Int) + 1 - (i : Int)) = (n : Int) + 1 - (i : Int) := by rw [IntKind.wrap_i64]; omega
  have hb1 : (0 : Int) ≤ (i : Int) + 1 := by omega
  have hin : i ≤ n := by omega
  have htn1 : ((i : Int) + 1).toNat = i + 1 := by omega
  have hGi : ¬ (G = i) := by omega
  have hGim : ¬ (G = i + 1) := by omega
  have hci : ¬ (c = i) := by omega
  have hb3 : (i : Int) ≤ (n : Int) := by omega
  have hz2 : ¬ ((i : Int) = (n : Int)) := by omega
  have hz3 : (c : Int) < (n : Int) + 1 := by omega
  rw [← hW1] at hrz
  clear hW1
  have mixed : Tryz.prog.follows .mixedOrders = true := by kernel_rfl
  go_enter Tryz.func130, Tryz.ntmps130
  go_wp2_with (first
    | (at_builtin; refine Lib.wpList_append_run _ rfl _ _ _ _ rfl _ _ rfl rfl _ _ (hrz _) ?_)
    | (at_builtin; refine wpList_copy_runI _ rfl _ _ 23 23 rfl _ _ rfl rfl (hcpA _ (by rfl) _ _ _) ?_))
  go_region_law (go_loud (refine step_copy_runI rfl _ _ 23 23 rfl (.slice (some ⟨w.heap.size, (i + 1) * 4, none⟩) (n - i) (G - (i + 1))) (.slice (some ⟨g, i * 4, none⟩) (n - i) (c - i)) (by simp [Act.eval, Act.put]) (by simp [Act.eval, Act.put]) (hcpB (W1.setRow w.heap.size row2).drew rfl 3 (G - (i + 1)) (c - i)) ?_))
  go_wp2
  go_ret
  refine ⟨G, rfl, row3, setRow_heap _ w.heap.size row2 _ 56 _ (setRow_heap W1 w.heap.size ROW _ 56 _ hW1g), by omega, hGn, hG63, hfin, ⟨hgW1.os, hgW1.tape, hgW1.output, by have := hgW1.size; simpa [World.setRow] using this, fun k hk _ => ?_⟩⟩
  rw [_root_.Go.setRow_other _ w.heap.size k _ (Nat.ne_of_lt hk)]
  exact (_root_.Go.setRow_other W1 w.heap.size k _ (Nat.ne_of_lt hk)).trans (hW1o k hk)

theorem ins130 : InsRun Tryz.prog 130 56 4 := fun w v u n i xs ys hv hu hi hm hap h1 h2 => by
  by_cases he : i = n
  · subst he
    refine (ins130_end w v u i xs ys hv hu hm h2).mono fun en w' ⟨v', e1, e2, e3, e4⟩ => ⟨v', e1, ?_, e3, e4⟩
    have hl := hv.1
    rw [List.take_of_length_le (by omega), List.drop_eq_nil_of_le (by omega), List.append_nil]
    exact e2
  · have hin : i < n := by omega
    rcases hv.2 with ⟨h0, _⟩ | ⟨g, c, cur, rfl, hc0, hg, hnc, hcm, hsz, htk⟩
    · omega
    rcases hu.2 with ⟨h0, _⟩ | ⟨g2, c2, cur2, rfl, hc20, hg2, _, _, hsz2, htk2⟩
    · omega
    have hob : ob (.slice (some ⟨g, 0, none⟩) n c) = some g := by simp only [ob]; rw [if_neg (by omega)]
    have hob2 : ob (.slice (some ⟨g2, 0, none⟩) 1 c2) = some g2 := by simp only [ob]; rw [if_neg (by omega)]
    have hne : g2 ≠ g := fun e => hap g hob (by rw [hob2, e])
    by_cases hroom : n + 1 ≤ c
    · refine (ins130_shift w g c g2 c2 n i xs ys cur cur2 hg hsz htk hv.1 hg2 hsz2 hc20 htk2 hu.1 hne hin hroom hcm h1 h2).mono fun en w' ⟨e1, cur', e2, e3, e4, e5⟩ => ?_
      refine ⟨_, e1, ⟨?_, .inr ⟨g, c, cur', rfl, hc0, e2, hroom, hcm, by rw [e3, hsz], e4⟩⟩, by rw [hob]; exact e5, .inl ?_⟩
      · have hl := hv.1; have hl2 := hu.1
        simp only [List.length_append, List.length_take, List.length_drop]; omega
      · rw [hob]; simp only [ob]; rw [if_neg (by omega)]
    · refine (ins130_grow w g c g2 c2 n i xs ys cur cur2 hg hsz htk hv.1 hg2 hsz2 hc20 htk2 hu.1 hne hin hnc (by omega) hm h1 h2).mono fun en w' ⟨G, e1, cur', e2, e3, e4, e5, e6, e7⟩ => ?_
      refine ⟨_, e1, ⟨?_, .inr ⟨w.heap.size, G, cur', rfl, by omega, e2, e4, e5, e3, e6⟩⟩, by rw [hob]; exact e7, .inr fun b hb => ?_⟩
      · have hl := hv.1; have hl2 := hu.1
        simp only [List.length_append, List.length_take, List.length_drop]; omega
      · simp only [ob] at hb; rw [if_neg (by omega)] at hb; cases hb; omega

set_option maxHeartbeats 4000000 in
set_option maxRecDepth 100000 in
theorem del120_core (w : World) (g c n i j X : Nat) (xs : List Value) (cur : Array Value) (hg : w.heap[g]? = some (.cells cur 56 (0, 0))) (hsz : cur.size = c * 4) (htk : cur.toList.take (n * 4) = xs) (hxl : xs.length = n * 4)
    (hij : i < j) (hjn : j ≤ n) (hnc : n ≤ c) (hc : c ≤ maxLen) (hX : if c = j then X = 0 else X = j * 4)
    (h1 : ∀ q ∈ xs, q.oneCell' = true) :
    Calls Tryz.prog 120 #[.slice (some ⟨g, 0, none⟩) n c, .int .i64 i, .int .i64 j] w fun en w' => en = .returned (.slice (some ⟨g, 0, none⟩) (i + (n - j)) c) ∧
      ∃ cur' : Array Value, w'.heap[g]? = some (.cells cur' 56 (0, 0)) ∧ cur'.size = cur.size ∧ cur'.toList.take ((i + (n - j)) * 4) = xs.take (i * 4) ++ xs.drop (j * 4) ∧ w.grownBy w' (some g) := by
  have ht : Tryz.prog.underlying 23 = some (.slice 56) := by kernel_rfl
  have hz : (Tryz.prog.info? 56).map (·.size) = some 4 := by kernel_rfl
  obtain ⟨zs, hzs⟩ : ∃ zs, zeroA Tryz.prog 56 = some zs := Option.isSome_iff_exists.1 (by kernel_rfl)
  obtain ⟨i0, z0, hi0, hz0, rfl, hz1⟩ := zeroA_spec hzs
  obtain ⟨i1, z1, he⟩ := elemOk_spec (P := Tryz.prog) (e := 56) (k := .pair (.pair (.int .i64) (.int .i64)) (.pair .str (.int .i64))) (by kernel_rfl)
  have ei : i1 = i0 := by have := he.info; rw [hi0] at this; cases this; rfl
  subst ei
  have ez : z1 = z0 := by have := he.zero; rw [hz0] at this; cases this; rfl
  subst ez
  have hzl : z1.cells.size = 4 := he.zsize
  clear he hzs
  have hdl : (xs.drop (j * 4)).length = (n - j) * 4 := by rw [List.length_drop, hxl]; omega
  obtain ⟨cur1, hcur1⟩ : ∃ cur1 : Array Value, cur1 = (cur.toList.take (i * 4) ++ xs.drop (j * 4) ++ cur.toList.drop (i * 4 + (xs.drop (j * 4)).length)).toArray := ⟨_, rfl⟩
  have hs1 : cur1.size = cur.size := by rw [hcur1]; simp; omega
  have hap : ∀ ty sc, (Builtin.append_ #[23, 23] ty #[.slice (some ⟨g, 0, none⟩) i c, .slice (some ⟨g, X, none⟩) (n - j) sc]).run Tryz.prog w.drew = .ok (.slice (some ⟨g, 0, none⟩) (i + (n - j)) c) (w.drew.setRow g cur1) := fun ty sc => by
    by_cases hcj : c = j
    · have hnj : n = j := by omega
      have : n - j = 0 := by omega
      rw [this] at hdl ⊢
      have hnil : xs.drop (j * 4) = [] := List.eq_nil_of_length_eq_zero (by omega)
      rw [run_append_nothing ht hi0 _ _ _ (by omega) _ _, hcur1, hnil]
      simp only [List.append_nil, List.length_nil, Nat.add_zero, List.take_append_drop, Array.toArray_toList]
      rw [setRow_self w.drew g cur 56 (0, 0) hg]
    · rw [if_neg hcj] at hX
      subst hX
      rw [hcur1]
      exact run_append_roomS (P := Tryz.prog) w.drew 23 ty 56 4 g i c ⟨g, j * 4, none⟩ (n - j) sc cur (xs.drop (j * 4)) ht hz hg hdl (row_at (size := 4) (n := n) (w := w.drew) hg htk (j * 4)) (fun q hq => h1 q (List.mem_of_mem_drop hq)) (by omega) (by omega)
  obtain ⟨cur2, hcur2⟩ : ∃ cur2 : Array Value, cur2 = (cur1.toList.take ((i + (n - j)) * 4) ++ (Builtin.zeroCells z1.cells (j - i)).toList ++ cur1.toList.drop ((i + (n - j)) * 4 + (Builtin.zeroCells z1.cells (j - i)).toList.length)).toArray := ⟨_, rfl⟩
  have hzc : (Builtin.zeroCells z1.cells (j - i)).toList.length = (j - i) * 4 := by simp [Builtin.zeroCells, hzl]
  have hs2 : cur2.size = cur.size := by rw [hcur2]; simp [hzc]; omega
  have hcl : ∀ ty sc, (Builtin.clear_ #[23] ty #[.slice (some ⟨g, (i + (n - j)) * 4, none⟩) (n - (i + (n - j))) sc]).run Tryz.prog (w.drew.setRow g cur1) = .ok (.tuple #[]) ((w.drew.setRow g cur1).setRow g cur2) := fun ty sc => by
    have := run_clear_rowS (P := Tryz.prog) (w.drew.setRow g cur1) 23 ty 56 4 g ((i + (n - j)) * 4) (j - i) sc cur1 i1 z1 ht hi0 hz0 hzl hz1 (setRow_heap w.drew g cur _ 56 _ hg) (by omega) (by omega)
    rw [show n - (i + (n - j)) = j - i by omega, this, hcur2]
  have hfin : cur2.toList.take ((i + (n - j)) * 4) = xs.take (i * 4) ++ xs.drop (j * 4) := del_list (cur1 := cur1.toList) htk (by simp; omega) (by omega) hjn (by rw [hcur1]) (by rw [hcur2])
  clear hcur1 hcur2 htk hdl
  have h63 : c ≤ 9223372036854775807 := by unfold maxLen at hc; omega
  have hin : i ≤ n := by omega
  have hic : ¬ (c = i) := by omega
  have hjc : j ≤ c := by omega
  have hne : ¬ ((i : Int) = (j : Int)) := by omega
  have hil : i ≤ j := by omega
  have hic2 : i ≤ c := by omega
  have hle1 : i + (n - j) ≤ n := by omega
  have hle2 : i + (n - j) ≤ c := by omega
  have hnc2 : ¬ (c = i + (n - j)) := by omega
  have hle3 : (i : Int) + ((n - j : Nat) : Int) ≤ (n : Int) := by omega
  have mixed : Tryz.prog.follows .mixedOrders = true := by kernel_rfl
  by_cases hcj : c = j
  · rw [if_pos hcj] at hX
    subst hX
    subst hcj
    obtain rfl : n = c := by omega
    simp only [Nat.sub_self, Nat.add_zero] at hap hcl hfin ⊢
    go_enter Tryz.func120, Tryz.ntmps120
    go_wp2_with fail
    go_region_law (go_loud (refine step_append_run rfl _ _ 23 23 rfl (.slice (some ⟨g, 0, none⟩) i n) (.slice (some ⟨g, 0, none⟩) 0 0) (by simp [Act.eval, Act.put]) (by simp [Act.eval, Act.put]) (hap 23 0) ?_))
    go_wp2_with (simp only [hcl])
    go_ret
    refine ⟨rfl, cur2, setRow_heap _ g cur1 _ 56 _ (setRow_heap w.drew g cur _ 56 _ hg), hs2, hfin, ⟨rfl, rfl, rfl, by simp [World.setRow], fun k hk hkg => ?_⟩⟩
    have hk' : k ≠ g := fun e => hkg (by rw [e])
    rw [_root_.Go.setRow_other _ g k _ hk', _root_.Go.setRow_other _ g k _ hk']; rfl
  · rw [if_neg hcj] at hX
    subst hX
    go_enter Tryz.func120, Tryz.ntmps120
    go_wp2_with fail
    go_region_law (go_loud (refine step_append_run rfl _ _ 23 23 rfl (.slice (some ⟨g, 0, none⟩) i c) (.slice (some ⟨g, j * 4, none⟩) (n - j) (c - j)) (by simp [Act.eval, Act.put]) (by simp [Act.eval, Act.put]) (hap 23 (c - j)) ?_))
    go_wp2_with (simp only [hcl])
    go_ret
    refine ⟨rfl, cur2, setRow_heap _ g cur1 _ 56 _ (setRow_heap w.drew g cur _ 56 _ hg), hs2, hfin, ⟨rfl, rfl, rfl, by simp [World.setRow], fun k hk hkg => ?_⟩⟩
    have hk' : k ≠ g := fun e => hkg (by rw [e])
    rw [_root_.Go.setRow_other _ g k _ hk', _root_.Go.setRow_other _ g k _ hk']; rfl

theorem del120 : DelRun Tryz.prog 120 56 4 := fun w v n i j xs hv hij hjn hm h1 => by
  rcases hv.2 with ⟨h0, _⟩ | ⟨g, c, cur, rfl, hc0, hg, hnc, hcm, hsz, htk⟩
  · omega
  have hob : ob (.slice (some ⟨g, 0, none⟩) n c) = some g := by simp only [ob]; rw [if_neg (by omega)]
  refine (del120_core w g c n i j (if c = j then 0 else j * 4) xs cur hg hsz htk hv.1 hij hjn hnc hcm (by split <;> rfl) h1).mono fun en w' ⟨e1, cur', e2, e3, e4, e5⟩ => ?_
  refine ⟨_, e1, ⟨?_, .inr ⟨g, c, cur', rfl, hc0, e2, by omega, hcm, by rw [e3, hsz], e4⟩⟩, by rw [hob]; exact e5, ?_⟩
  · have hl := hv.1
    simp only [List.length_append, List.length_take, List.length_drop]; omega
  · rw [hob]; simp only [ob]; rw [if_neg (by omega)]

end Go.Vs

set_option linter.unusedVariables false
set_option linter.unusedSimpArgs false
namespace Go.Vs
open Go.Proofs Go.RowKit

set_option maxHeartbeats 4000000 in
set_option maxRecDepth 100000 in
theorem ins156_end (w : World) (v u : Value) (n : Nat) (xs ys : List Value) (hv : OwnR w 103 6 v n xs) (hu : OwnR w 103 6 u 1 ys) (hm : n + 1 ≤ most) (h1 : ∀ q ∈ ys, q.oneCell' = true) :
    Calls Tryz.prog 156 #[v, .int .i64 n, u] w fun en w' => ∃ v', en = .returned v' ∧ OwnR w' 103 6 v' (n + 1) (xs ++ ys) ∧ w.grownBy w' (ob v) ∧ (ob v' = ob v ∨ ∀ b, ob v' = some b → w.heap.size ≤ b) := by
  have ht : Tryz.prog.underlying 26 = some (.slice 103) := by kernel_rfl
  obtain ⟨i0, z0, he⟩ := elemOk_spec (P := Tryz.prog) (e := 103) (k := .pair (.pair (.pair (.int .i64) (.int .i64)) (.int .i64)) (.pair (.pair (.int .i64) (.int .i64)) (.int .i64))) (by kernel_rfl)
  have hsrc : SrcC w 6 u 1 ys := by
    refine ⟨hu.1, h1, .inr ?_⟩
    rcases hu.2 with ⟨h0, _⟩ | ⟨g, cap, cur, rfl, _, hg, _, _, hc, htk⟩
    · cases h0
    · refine ⟨_, _, rfl, fun j q hj => ?_⟩
      rw [addr_plain, Nat.zero_add]
      rw [← htk, List.getElem?_take] at hj
      split at hj
      · simp [World.cell?, hg]; simpa using hj
      · cases hj
  obtain ⟨v', w', hrun, h4, h5, h6⟩ := run_append_any (P := Tryz.prog) (ty := 26) ht he hv hsrc hm
  obtain ⟨A, c, rfl⟩ := hv.slice
  have hnc : n ≤ c := by
    rcases hv.2 with ⟨h0, A, e⟩ | ⟨g, cap, cur, e, hc, h2, h3, _⟩
    · omega
    · cases e; exact h3
  obtain ⟨B, cu, rfl⟩ := hu.slice
  have hn63 : n ≤ 1073741824 := by unfold most at hm; omega
  go_enter Tryz.func156, Tryz.ntmps156
  go_wp2_with (at_builtin; refine Lib.wpList_append_run _ rfl _ _ _ _ rfl _ _ rfl rfl _ _ hrun ?_)
  all_goals go_ret
  all_goals first | exact ⟨_, rfl, h4, h5, h6⟩ | (subst_vars; exact ⟨_, rfl, h4, h5, h6⟩)

set_option maxHeartbeats 4000000 in
set_option maxRecDepth 100000 in
theorem ins156_shift (w : World) (g c g2 c2 n i : Nat) (xs ys : List Value) (cur cur2 : Array Value) (hg : w.heap[g]? = some (.cells cur 103 (0, 0))) (hsz : cur.size = c * 6) (htk : cur.toList.take (n * 6) = xs) (hxl : xs.length = n * 6)
    (hg2 : w.heap[g2]? = some (.cells cur2 103 (0, 0))) (hsz2 : cur2.size = c2 * 6) (hc2 : 0 < c2) (htk2 : cur2.toList.take (1 * 6) = ys) (hyl : ys.length = 1 * 6) (hne : g2 ≠ g) (hi : i < n) (hroom : n + 1 ≤ c) (hc : c ≤ maxLen)
    (h1 : ∀ q ∈ xs, q.oneCell' = true) (h2 : ∀ q ∈ ys, q.oneCell' = true) :
    Calls Tryz.prog 156 #[.slice (some ⟨g, 0, none⟩) n c, .int .i64 i, .slice (some ⟨g2, 0, none⟩) 1 c2] w fun en w' => en = .returned (.slice (some ⟨g, 0, none⟩) (n + 1) c) ∧
      ∃ cur' : Array Value, w'.heap[g]? = some (.cells cur' 103 (0, 0)) ∧ cur'.size = cur.size ∧ cur'.toList.take ((n + 1) * 6) = xs.take (i * 6) ++ (ys ++ xs.drop (i * 6)) ∧ w.grownBy w' (some g) := by
  have ht : Tryz.prog.underlying 26 = some (.slice 103) := by kernel_rfl
  have hz : (Tryz.prog.info? 103).map (·.size) = some 6 := by kernel_rfl
  have hzs : ∀ w, (Go.sizeOf 103).run Tryz.prog w = .ok 6 w := fun w => by
    cases hq : Tryz.prog.info? 103 with
    | none => rw [hq] at hz; cases hz
    | some i => rw [hq] at hz; simp at hz; simp [sizeOf, typeInfo, hq, hz]
  have hov : ∀ a2 lb cb, (callFunc 168 #[.slice (some ⟨g2, 0, none⟩) 1 c2, .slice (some ⟨g, a2, none⟩) lb cb]).run Tryz.prog w = .ok (.value (.bool false)) w := fun a2 lb cb => by
    rw [run_callFunc_extern Tryz.func168 (by kernel_rfl) (by kernel_rfl) (by kernel_rfl) (e := Extern.SlicesOverlaps.overlaps #[26, 26] #[4]) (by kernel_rfl),
      Lib.run_overlaps_apart w 26 4 103 ht 6 hzs ⟨g2, 0, none⟩ ⟨g, a2, none⟩ 1 c2 lb cb hne 103 103 cur2.size cur.size (by simp [World.shape?, hg2]) (by simp [World.shape?, hg]) (by omega) (by simp [World.frozen?, hg2]) (by simp [World.frozen?, hg2])]
    rfl
  have hys := row_at (size := 6) (n := 1) hg2 htk2 0
  have hxs := row_at (size := 6) (n := n) hg htk (i * 6)
  have h63 : c ≤ 9223372036854775807 := by unfold maxLen at hc; omega
  have hn5 : n * 6 ≤ cur.size := by omega
  obtain ⟨cur1, hcur1⟩ : ∃ cur1 : Array Value, cur1 = (cur.toList.take ((i + 1) * 6) ++ xs.drop (i * 6) ++ cur.toList.drop ((i + 1) * 6 + (xs.drop (i * 6)).length)).toArray := ⟨_, rfl⟩
  have hdl : (xs.drop (i * 6)).length = (n - i) * 6 := by rw [List.length_drop, hxl]; omega
  have hcp1 : ∀ (W : World), W.heap = w.heap → ∀ ty dc sc, (Builtin.copy_ #[26, 26] ty #[.slice (some ⟨g, (i + 1) * 6, none⟩) (n - i) dc, .slice (some ⟨g, i * 6, none⟩) (n + 1 - i) sc]).run Tryz.prog W = .ok (goInt (n - i : Nat)) (W.setRow g cur1) := fun W hW ty dc sc => by
    have := run_copy_rowS (P := Tryz.prog) W 26 26 ty 103 6 g ((i + 1) * 6) (n - i) dc ⟨g, i * 6, none⟩ (n + 1 - i) sc cur 103 (xs.drop (i * 6)) ht hz (by rw [hW]; exact hg) (by rw [hdl]; simp only [Nat.min_def]; split <;> omega)
      (fun j v hj => by have := hxs j v hj; simpa only [World.cell?, hW] using this) (by omega) (fun q hq => h1 q (List.mem_of_mem_drop hq))
    rw [this, hcur1]
    congr 2
    simp only [Nat.min_def]; split <;> omega
  have hs1 : cur1.size = cur.size := by rw [hcur1]; simp; omega
  obtain ⟨cur3, hcur3⟩ : ∃ cur3 : Array Value, cur3 = (cur1.toList.take (i * 6) ++ ys ++ cur1.toList.drop (i * 6 + ys.length)).toArray := ⟨_, rfl⟩
  have hcp2 : ∀ (W : World), W.heap[g]? = some (.cells cur1 103 (0, 0)) → W.heap[g2]? = w.heap[g2]? → ∀ ty dc sc, (Builtin.copy_ #[26, 26] ty #[.slice (some ⟨g, i * 6, none⟩) (n + 1 - i) dc, .slice (some ⟨g2, 0, none⟩) 1 sc]).run Tryz.prog W = .ok (goInt 1) (W.setRow g cur3) := fun W hW hW2 ty dc sc => by
    have := run_copy_rowS (P := Tryz.prog) W 26 26 ty 103 6 g (i * 6) (n + 1 - i) dc ⟨g2, 0, none⟩ 1 sc cur1 103 ys ht hz hW (by rw [hyl]; simp only [Nat.min_def]; split <;> omega)
      (fun j v hj => by have := hys j v (by simpa using hj); simpa only [World.cell?, addr_block, hW2] using this) (by omega) h2
    rw [this, hcur3]
    congr 2
    simp only [Nat.min_def]; split <;> omega
  have hw1 : IntKind.i64.wrap ((i : Int) + 1) = (i : Int) + 1 := by rw [IntKind.wrap_i64]; omega
  have hw2 : IntKind.i64.wrap ((n : Int) + 1) = (n : Int) + 1 := by rw [IntKind.wrap_i64]; omega
  have hb1 : (0 : Int) ≤ (i : Int) + 1 := by omega
  have hin : i ≤ n := by omega
  have htn : ((i : Int) + 1).toNat = i + 1 := by omega
  have hb2 : ¬ (c = i + 1) := by omega
  have hb3 : (i : Int) ≤ (n : Int) + 1 := by omega
  have hb4 : ¬ (c = i) := by omega
  have hz2 : ¬ ((i : Int) = (n : Int)) := by omega
  have hz3 : ¬ ((c : Int) < (n : Int) + 1) := by omega
  have hs3 : cur3.size = cur.size := by rw [hcur3]; simp; omega
  have hfin : cur3.toList.take ((n + 1) * 6) = xs.take (i * 6) ++ (ys ++ xs.drop (i * 6)) := ins_list (sz := 6) (cur1 := cur1.toList) (cur3 := cur3.toList) htk (by simp; omega) (by rw [hyl]) hin (by rw [hcur1]) (by rw [hcur3])
  clear hcur3 hcur1 hdl htk htk2
  have hcp2' := hcp2 (w.drew.setRow g cur1) (setRow_heap w.drew g cur _ 103 _ hg) (_root_.Go.setRow_other w.drew g g2 _ hne)
  have mixed : Tryz.prog.follows .mixedOrders = true := by kernel_rfl
  go_enter Tryz.func156, Tryz.ntmps156
  go_wp2_with (simp only [hov])
  go_region_law (go_loud (refine step_copy_runI rfl _ _ 26 26 rfl (.slice (some ⟨g, (i + 1) * 6, none⟩) (n - i) (c - (i + 1))) (.slice (some ⟨g, i * 6, none⟩) (n + 1 - i) (c - i)) (by simp [Act.eval, Act.put]) (by simp [Act.eval, Act.put]) (hcp1 w.drew rfl 3 (c - (i + 1)) (c - i)) ?_))
  go_wp2_with (simp only [hcp2'])
  go_ret
  refine ⟨rfl, cur3, setRow_heap _ g cur1 _ 103 _ (setRow_heap w.drew g cur _ 103 _ hg), hs3, hfin, ⟨rfl, rfl, rfl, by simp [World.setRow], fun k hk hkg => ?_⟩⟩
  have hk' : k ≠ g := fun e => hkg (by rw [e])
  rw [_root_.Go.setRow_other _ g k _ hk', _root_.Go.setRow_other _ g k _ hk']; rfl

set_option maxHeartbeats 4000000 in
set_option maxRecDepth 100000 in
theorem ins156_grow (w : World) (g c g2 c2 n i : Nat) (xs ys : List Value) (cur cur2 : Array Value) (hg : w.heap[g]? = some (.cells cur 103 (0, 0))) (hsz : cur.size = c * 6) (htk : cur.toList.take (n * 6) = xs) (hxl : xs.length = n * 6)
    (hg2 : w.heap[g2]? = some (.cells cur2 103 (0, 0))) (hsz2 : cur2.size = c2 * 6) (hc2 : 0 < c2) (htk2 : cur2.toList.take (1 * 6) = ys) (hyl : ys.length = 1 * 6) (hne : g2 ≠ g) (hi : i < n) (hnc : n ≤ c) (hroom : c < n + 1) (hm : n + 1 ≤ most)
    (h1 : ∀ q ∈ xs, q.oneCell' = true) (h2 : ∀ q ∈ ys, q.oneCell' = true) :
    Calls Tryz.prog 156 #[.slice (some ⟨g, 0, none⟩) n c, .int .i64 i, .slice (some ⟨g2, 0, none⟩) 1 c2] w fun en w' => ∃ G, en = .returned (.slice (some ⟨w.heap.size, 0, none⟩) (n + 1) G) ∧
      ∃ cur' : Array Value, w'.heap[w.heap.size]? = some (.cells cur' 103 (0, 0)) ∧ cur'.size = G * 6 ∧ n + 1 ≤ G ∧ G ≤ maxLen ∧ cur'.toList.take ((n + 1) * 6) = xs.take (i * 6) ++ (ys ++ xs.drop (i * 6)) ∧ w.grownBy w' (some g) := by
  have ht : Tryz.prog.underlying 26 = some (.slice 103) := by kernel_rfl
  have htn : Tryz.prog.underlying 3 = some (.int .i64) := by kernel_rfl
  have hz : (Tryz.prog.info? 103).map (·.size) = some 6 := by kernel_rfl
  obtain ⟨i0, z0, he⟩ := elemOk_spec (P := Tryz.prog) (e := 103) (k := .pair (.pair (.pair (.int .i64) (.int .i64)) (.int .i64)) (.pair (.pair (.int .i64) (.int .i64)) (.int .i64))) (by kernel_rfl)
  have hzl : z0.cells.size = 6 := he.zsize
  have hzs : i0.size = 6 := he.size
  have hb0 := he.bytes
  have hys := row_at (size := 6) (n := 1) hg2 htk2 0
  have hxs := row_at (size := 6) (n := n) hg htk (i * 6)
  have hxs0 := row_at (size := 6) (n := n) hg htk 0
  have hgl : g < w.heap.size := (Array.getElem?_eq_some_iff.1 hg).1
  have hgl2 : g2 < w.heap.size := (Array.getElem?_eq_some_iff.1 hg2).1
  unfold most at hm
  have hbytes : (n + 1) * i0.bytes ≤ 140737488355328 := Nat.le_trans (Nat.mul_le_mul hm hb0) (by decide)
  have hold : (Builtin.firstCells i0.size i (.slice (some ⟨g, 0, none⟩) i c)).run Tryz.prog w.drew = .ok (xs.take (i * 6)).toArray w.drew := by
    rw [hzs]
    exact run_firstCells_some w.drew 6 i ⟨g, 0, none⟩ i c (xs.take (i * 6)) (by rw [List.length_take]; omega) (fun j v hj => by
      rw [List.getElem?_take] at hj
      split at hj
      · exact hxs0 j v hj
      · cases hj)
  obtain ⟨G, hG⟩ : ∃ G, G = grownCap w (n + 1) c 103 := ⟨_, rfl⟩
  obtain ⟨ROW, hROW⟩ : ∃ ROW : Array Value, ROW = (xs.take (i * 6)).toArray ++ Builtin.zeroCells z0.cells (n + 1 - i) ++ Builtin.zeroCells z0.cells (G - (n + 1)) := ⟨_, rfl⟩
  have hik : i + (n + 1 - i) = n + 1 := by omega
  have hrz : ∀ ty, (Builtin.append_ #[26, 3] ty #[.slice (some ⟨g, 0, none⟩) i c, .int .i64 ((n : Int) + 1 - (i : Int))]).run Tryz.prog w = .ok (.slice (some ⟨w.heap.size, 0, none⟩) (n + 1) G) (w.drew.alloc (.cells ROW 103)) := fun ty => by
    have h := Lib.run_append_grow_zeros w 26 3 ty 103 i0 z0 .i64 .i64 ht htn he.info he.zero (some ⟨g, 0, none⟩) i c (xs.take (i * 6)) hold (n + 1 - i) (by omega) (by omega) (by omega) (by omega)
      (Nat.le_trans (Nat.mul_le_mul_right _ (show n + 1 - i ≤ n + 1 by omega)) (by omega)) (by rw [hik]; exact growslice_fits hroom hbytes)
    rw [hik] at h
    rw [show (n : Int) + 1 - (i : Int) = ((n + 1 - i : Nat) : Int) by omega, hROW, hG]
    exact h
  have hGn : n + 1 ≤ G := by rw [hG]; exact grownCap_ge w _ _ _
  have hG63 : G ≤ 9223372036854775807 := by
    have := grownCap_le_maxLen w (n + 1) c 103 (by unfold maxLen; omega)
    rw [← hG] at this
    unfold maxLen at this
    omega
  have hRs : ROW.size = G * 6 := by
    rw [hROW]
    simp [Builtin.zeroCells, hzl, List.length_take, hxl]
    rw [Nat.min_eq_left (by omega)]; omega
  have hRt : ROW.toList.take (i * 6) = xs.take (i * 6) := by
    rw [hROW]
    simp only [Array.toList_append, List.append_assoc]
    exact List.take_left' (by rw [List.length_take]; omega)
  obtain ⟨W1, hW1⟩ : ∃ W1, W1 = w.drew.alloc (.cells ROW 103) := ⟨_, rfl⟩
  have hW1g : W1.heap[w.heap.size]? = some (.cells ROW 103 (0, 0)) := by rw [hW1]; exact (MapKept.heap_alloc w.drew (.cells ROW 103)).1
  have hW1o : ∀ b, b < w.heap.size → W1.heap[b]? = w.heap[b]? := fun b hb => by rw [hW1]; exact (Below.heap_alloc w.drew (.cells ROW 103) b hb).trans rfl
  have hgW1 : w.grownBy W1 none := ⟨by rw [hW1]; rfl, by rw [hW1]; rfl, by rw [hW1]; rfl, by have := (Array.getElem?_eq_some_iff.1 hW1g).1; omega, fun k hk _ => hW1o k hk⟩
  obtain ⟨row2, hrow2⟩ : ∃ row2 : Array Value, row2 = (ROW.toList.take (i * 6) ++ ys ++ ROW.toList.drop (i * 6 + ys.length)).toArray := ⟨_, rfl⟩
  have hs2 : row2.size = ROW.size := by rw [hrow2]; simp; omega
  have hcpA : ∀ (W : World), W.heap = W1.heap → ∀ ty dc sc, (Builtin.copy_ #[26, 26] ty #[.slice (some ⟨w.heap.size, i * 6, none⟩) (n + 1 - i) dc, .slice (some ⟨g2, 0, none⟩) 1 sc]).run Tryz.prog W = .ok (goInt 1) (W.setRow w.heap.size row2) := fun W hW ty dc sc => by
    have := run_copy_rowS (P := Tryz.prog) W 26 26 ty 103 6 w.heap.size (i * 6) (n + 1 - i) dc ⟨g2, 0, none⟩ 1 sc ROW 103 ys ht hz (by rw [hW]; exact hW1g) (by rw [hyl]; simp only [Nat.min_def]; split <;> omega)
      (fun j v hj => by have := hys j v (by simpa using hj); simpa only [World.cell?, addr_block, hW, hW1o g2 hgl2] using this) (by omega) h2
    rw [this, hrow2]
    congr 2
    simp only [Nat.min_def]; split <;> omega
  obtain ⟨row3, hrow3⟩ : ∃ row3 : Array Value, row3 = (row2.toList.take ((i + 1) * 6) ++ xs.drop (i * 6) ++ row2.toList.drop ((i + 1) * 6 + (xs.drop (i * 6)).length)).toArray := ⟨_, rfl⟩
  have hdl : (xs.drop (i * 6)).length = (n - i) * 6 := by rw [List.length_drop, hxl]; omega
  have hs3 : row3.size = ROW.size := by rw [hrow3]; simp; omega
  have hcpB : ∀ (W : World), W.heap = (W1.setRow w.heap.size row2).heap → ∀ ty dc sc, (Builtin.copy_ #[26, 26] ty #[.slice (some ⟨w.heap.size, (i + 1) * 6, none⟩) (n - i) dc, .slice (some ⟨g, i * 6, none⟩) (n - i) sc]).run Tryz.prog W = .ok (goInt (n - i : Nat)) (W.setRow w.heap.size row3) := fun W hW ty dc sc => by
    have := run_copy_rowS (P := Tryz.prog) W 26 26 ty 103 6 w.heap.size ((i + 1) * 6) (n - i) dc ⟨g, i * 6, none⟩ (n - i) sc row2 103 (xs.drop (i * 6)) ht hz (by rw [hW]; exact setRow_heap W1 w.heap.size ROW _ 103 _ hW1g) (by rw [hdl]; simp only [Nat.min_def]; split <;> omega)
      (fun j v hj => by have := hxs j v hj; simpa only [World.cell?, addr_block, hW, _root_.Go.setRow_other W1 w.heap.size g _ (Nat.ne_of_lt hgl), hW1o g hgl] using this) (by omega) (fun q hq => h1 q (List.mem_of_mem_drop hq))
    rw [this, hrow3]
    congr 2
    simp only [Nat.min_def]; split <;> omega
  have hfin : row3.toList.take ((n + 1) * 6) = xs.take (i * 6) ++ (ys ++ xs.drop (i * 6)) := grow_list (sz := 6) (row := ROW.toList) (row2 := row2.toList) (row3 := row3.toList) hRt (by simp; omega) hxl (by rw [hyl]) (by omega) (by rw [hrow2]) (by rw [hrow3])
  clear hrow3 hrow2 hROW hdl htk htk2 hRt hxs0 hold hG
  have hw1 : IntKind.i64.wrap ((i : Int) + 1) = (i : Int) + 1 := by rw [IntKind.wrap_i64]; omega
  have hw2 : IntKind.i64.wrap ((n : Int) + 1) = (n : Int) + 1 := by rw [IntKind.wrap_i64]; omega
  have hw3 : IntKind.i64.wrap ((n : Int) + 1 - (i : Int)) = (n : Int) + 1 - (i : Int) := by rw [IntKind.wrap_i64]; omega
  have hb1 : (0 : Int) ≤ (i : Int) + 1 := by omega
  have hin : i ≤ n := by omega
  have htn1 : ((i : Int) + 1).toNat = i + 1 := by omega
  have hGi : ¬ (G = i) := by omega
  have hGim : ¬ (G = i + 1) := by omega
  have hci : ¬ (c = i) := by omega
  have hb3 : (i : Int) ≤ (n : Int) := by omega
  have hz2 : ¬ ((i : Int) = (n : Int)) := by omega
  have hz3 : (c : Int) < (n : Int) + 1 := by omega
  rw [← hW1] at hrz
  clear hW1
  have mixed : Tryz.prog.follows .mixedOrders = true := by kernel_rfl
  go_enter Tryz.func156, Tryz.ntmps156
  go_wp2_with (first
    | (at_builtin; refine Lib.wpList_append_run _ rfl _ _ _ _ rfl _ _ rfl rfl _ _ (hrz _) ?_)
    | (at_builtin; refine wpList_copy_runI _ rfl _ _ 26 26 rfl _ _ rfl rfl (hcpA _ (by rfl) _ _ _) ?_))
  go_region_law (go_loud (refine step_copy_runI rfl _ _ 26 26 rfl (.slice (some ⟨w.heap.size, (i + 1) * 6, none⟩) (n - i) (G - (i + 1))) (.slice (some ⟨g, i * 6, none⟩) (n - i) (c - i)) (by simp [Act.eval, Act.put]) (by simp [Act.eval, Act.put]) (hcpB (W1.setRow w.heap.size row2).drew rfl 3 (G - (i + 1)) (c - i)) ?_))
  go_wp2
  go_ret
  refine ⟨G, rfl, row3, setRow_heap _ w.heap.size row2 _ 103 _ (setRow_heap W1 w.heap.size ROW _ 103 _ hW1g), by omega, hGn, hG63, hfin, ⟨hgW1.os, hgW1.tape, hgW1.output, by have := hgW1.size; simpa [World.setRow] using this, fun k hk _ => ?_⟩⟩
  rw [_root_.Go.setRow_other _ w.heap.size k _ (Nat.ne_of_lt hk)]
  exact (_root_.Go.setRow_other W1 w.heap.size k _ (Nat.ne_of_lt hk)).trans (hW1o k hk)

theorem ins156 : InsRun Tryz.prog 156 103 6 := fun w v u n i xs ys hv hu hi hm hap h1 h2 => by
  by_cases he : i = n
  · subst he
    refine (ins156_end w v u i xs ys hv hu hm h2).mono fun en w' ⟨v', e1, e2, e3, e4⟩ => ⟨v', e1, ?_, e3, e4⟩
    have hl := hv.1
    rw [List.take_of_length_le (by omega), List.drop_eq_nil_of_le (by omega), List.append_nil]
    exact e2
  · have hin : i < n := by omega
    rcases hv.2 with ⟨h0, _⟩ | ⟨g, c, cur, rfl, hc0, hg, hnc, hcm, hsz, htk⟩
    · omega
    rcases hu.2 with ⟨h0, _⟩ | ⟨g2, c2, cur2, rfl, hc20, hg2, _, _, hsz2, htk2⟩
    · omega
    have hob : ob (.slice (some ⟨g, 0, none⟩) n c) = some g := by simp only [ob]; rw [if_neg (by omega)]
    have hob2 : ob (.slice (some ⟨g2, 0, none⟩) 1 c2) = some g2 := by simp only [ob]; rw [if_neg (by omega)]
    have hne : g2 ≠ g := fun e => hap g hob (by rw [hob2, e])
    by_cases hroom : n + 1 ≤ c
    · refine (ins156_shift w g c g2 c2 n i xs ys cur cur2 hg hsz htk hv.1 hg2 hsz2 hc20 htk2 hu.1 hne hin hroom hcm h1 h2).mono fun en w' ⟨e1, cur', e2, e3, e4, e5⟩ => ?_
      refine ⟨_, e1, ⟨?_, .inr ⟨g, c, cur', rfl, hc0, e2, hroom, hcm, by rw [e3, hsz], e4⟩⟩, by rw [hob]; exact e5, .inl ?_⟩
      · have hl := hv.1; have hl2 := hu.1
        simp only [List.length_append, List.length_take, List.length_drop]; omega
      · rw [hob]; simp only [ob]; rw [if_neg (by omega)]
    · refine (ins156_grow w g c g2 c2 n i xs ys cur cur2 hg hsz htk hv.1 hg2 hsz2 hc20 htk2 hu.1 hne hin hnc (by omega) hm h1 h2).mono fun en w' ⟨G, e1, cur', e2, e3, e4, e5, e6, e7⟩ => ?_
      refine ⟨_, e1, ⟨?_, .inr ⟨w.heap.size, G, cur', rfl, by omega, e2, e4, e5, e3, e6⟩⟩, by rw [hob]; exact e7, .inr fun b hb => ?_⟩
      · have hl := hv.1; have hl2 := hu.1
        simp only [List.length_append, List.length_take, List.length_drop]; omega
      · simp only [ob] at hb; rw [if_neg (by omega)] at hb; cases hb; omega

end Go.Vs

set_option linter.unusedVariables false
set_option linter.unusedSimpArgs false
namespace Go.Vs
open Go.Proofs Go.RowKit

def GrowRun (P : Program) (f : FuncId) (e : TypeId) (size : Nat) : Prop :=
  ∀ (w : World) (n : Nat), n ≤ most → Calls P f #[.slice none 0 0, .int .i64 n] w fun en w' => ∃ v', en = .returned v' ∧ OwnR w' e size v' 0 [] ∧ w.grownBy w' none ∧ ∀ b, ob v' = some b → w.heap.size ≤ b

set_option maxHeartbeats 4000000 in
set_option maxRecDepth 100000 in
theorem grow158 : GrowRun Tryz.prog 158 32 3 := fun w n hm => by
  have ht : Tryz.prog.underlying 46 = some (.slice 32) := by kernel_rfl
  have htn : Tryz.prog.underlying 3 = some (.int .i64) := by kernel_rfl
  obtain ⟨i0, z0, he⟩ := elemOk_spec (P := Tryz.prog) (e := 32) (k := .pair (.pair (.int .i64) (.int .i64)) (.int .i64)) (by kernel_rfl)
  have hzl : z0.cells.size = 3 := he.zsize
  have hzs : i0.size = 3 := he.size
  have hb0 := he.bytes
  unfold most at hm
  by_cases hn : n = 0
  · subst hn
    have hob : ob (.slice none 0 0) = none := rfl
    go_enter Tryz.func158, Tryz.ntmps158
    go_wp2
    go_ret
    exact ⟨_, rfl, ⟨by simp, .inl ⟨rfl, none, rfl⟩⟩, World.grownBy.refl w _, fun b hb => by simp [ob] at hb⟩
  · have hbytes : n * i0.bytes ≤ 281474976710656 := Nat.le_trans (Nat.mul_le_mul hm hb0) (by decide)
    obtain ⟨G, hG⟩ : ∃ G, G = grownCap w n 0 32 := ⟨_, rfl⟩
    obtain ⟨ROW, hROW⟩ : ∃ ROW, ROW = Builtin.zeroCells z0.cells n ++ Builtin.zeroCells z0.cells (G - n) := ⟨_, rfl⟩
    obtain ⟨W1, hW1⟩ : ∃ W1, W1 = w.drew.alloc (.cells ROW 32) := ⟨_, rfl⟩
    have hrz : ∀ ty, (Builtin.append_ #[46, 3] ty #[.slice none 0 0, .int .i64 n]).run Tryz.prog w = .ok (.slice (some ⟨w.heap.size, 0, none⟩) n G) W1 := fun ty => by
      rw [hW1, hROW, hG]
      exact Lib.run_append_nil_zeros w 46 3 ty 32 i0 z0 .i64 .i64 ht htn he.info he.zero n (by omega) (by omega) (by omega) hbytes
    have hGn : n ≤ G := by rw [hG]; exact grownCap_ge w _ _ _
    have hG63 : G ≤ 9223372036854775807 := by
      have := grownCap_le_maxLen w n 0 32 (by unfold maxLen; omega)
      rw [← hG] at this
      unfold maxLen at this
      omega
    have hRs : ROW.size = G * 3 := by
      rw [hROW]
      simp [Builtin.zeroCells, hzl]
      omega
    have hW1g : W1.heap[w.heap.size]? = some (.cells ROW 32 (0, 0)) := by rw [hW1]; exact (MapKept.heap_alloc w.drew (.cells ROW 32)).1
    have hW1o : ∀ b, b < w.heap.size → W1.heap[b]? = w.heap[b]? := fun b hb => by rw [hW1]; exact (Below.heap_alloc w.drew (.cells ROW 32) b hb).trans rfl
    have hgW1 : w.grownBy W1 none := ⟨by rw [hW1]; rfl, by rw [hW1]; rfl, by rw [hW1]; rfl, by have := (Array.getElem?_eq_some_iff.1 hW1g).1; omega, fun k hk _ => hW1o k hk⟩
    clear hROW hW1 hG
    have hn0 : ¬ ((n : Int) < 0) := by omega
    have hn1 : 0 < (n : Int) := by omega
    have hn2 : IntKind.i64.wrap (n : Int) = n := by rw [IntKind.wrap_i64]; omega
    have hG0 : ¬ (G = 0) := by omega
    go_enter Tryz.func158, Tryz.ntmps158
    go_wp2_with (at_builtin; refine Lib.wpList_append_run _ rfl _ _ _ _ rfl _ _ rfl rfl _ _ (hrz _) ?_)
    go_ret
    refine ⟨.slice (some ⟨w.heap.size, 0, none⟩) 0 G, rfl, ⟨by simp, .inr ⟨w.heap.size, G, ROW, rfl, by omega, hW1g, by omega, hG63, hRs, by simp⟩⟩, hgW1, fun b hb => ?_⟩
    simp only [ob] at hb; rw [if_neg (by omega)] at hb; cases hb; omega

theorem growX_sound {P : Program} {f : FuncId} {ty : TypeId} {k : K} (hr : GrowRun P f ty k.sz) : XSound P f (growX ty k) := by
  intro Z ψ h w B0 O N hh id e vs us g hB hsub hN hment hwr hvs hms he
  unfold growX at he
  split at he
  rotate_left
  · cases he
  rename_i n
  simp only [Option.some.injEq, Prod.mk.injEq] at he
  obtain ⟨hok, rfl⟩ := he
  simp only [growOk, Bool.and_eq_true, decide_eq_true_eq] at hok
  obtain ⟨h0, h1⟩ := hok
  obtain ⟨m, rfl⟩ : ∃ m : Nat, n = m := ⟨n.toNat, by omega⟩
  simp only [RepL, Rep] at hvs
  obtain ⟨v, _, rfl, rfl, u, _, rfl, rfl, rfl⟩ := hvs
  have hid : N id := hN 0 (by omega)
  refine (hr w m (by omega)).mono fun en w' ⟨v', e1, e2, e3, e4⟩ => ?_
  have kk : Keep ψ h w w' := Keep.grown e3 (fun b e => by cases e)
  have hnx := next_row (N := N) g hB id ty hid (k := k) (xs := []) (vs := []) kk (fun b hb => e3.block b (g.own_lt hb) (by simp)) e2 (fun i x hx => by simp at hx) e4 (fun i ty cs hb => MentL.imp (p := fun i => ¬ N i) (q := fun i => i ≠ id) (fun a ha e => ha (by rw [e]; exact hid)) (hment i ty cs hb))
  refine ⟨v', Z, upd ψ id v', e1, ?_, ?_⟩
  · have hhp : (Eff.new (.osl id) [(id, Ob.own (.row ty k) [])]).hp h = upd h id (some (.own (.row ty k) [])) := get_single id _ h
    rw [hhp]; exact hnx
  · simp only [Eff.v, Rep]
    exact ⟨e2.one, fun _ => (upd_self _ _ _).symm⟩
end Go.Vs

set_option linter.unusedVariables false
namespace Go.Vs
variable {P : Program}

def eqFs (P : Program) (g : TypeId → K → Bool) : List Field → Nat → K → Bool
  | [], _, _ => false
  | [f], off, k => (f.name != "_") && (decide (f.offset = off) && (decide (P.cellsOf f.type = k.sz) && g f.type k))
  | f :: f' :: r, off, .pair a b => (f.name != "_") && (decide (f.offset = off) && (decide (P.cellsOf f.type = a.sz) && (g f.type a && eqFs P g (f' :: r) (off + a.sz) b)))
  | _, _, _ => false
def eqK (P : Program) : Nat → TypeId → K → Bool
  | 0, _, _ => false
  | d + 1, t, k =>
    match P.underlying t, k with
    | some (.int a), .int b => decide (a = b)
    | some .bool, .bool => true
    | some .string, .str => true
    | some (.struct fs), .pair a b => !P.stoodInHeld t && eqFs P (eqK P d) fs.toList 0 (.pair a b)
    | _, _ => false

/-- A value of a kind. -/
def VK (w : World) (Z : Nat → Prop) : (k : K) → k.T → Value → Prop
  | .pair a b, x, v => ∃ cs : Array Value, v = .agg cs ∧ RepK Z w (.pair a b) x cs.toList
  | .one k, x, v => False
  | k, x, v => RepK Z w k x [v]

theorem part_of {Z : Nat → Prop} {w : World} {d : Nat} {t : TypeId} {k : K} (hk : eqK P d t k = true) (hc : P.cellsOf t = k.sz) {cs : Array Value} {off : Nat} {x : k.T} (hr : RepK Z w k x ((cs.toList.drop off).take k.sz)) :
    ∃ v, (part t cs off).run P w = .ok v w ∧ VK w Z k x v := by
  cases d with
  | zero => simp [eqK] at hk
  | succ d =>
    have plain : k.sz = 1 → (P.underlying t).map isAggD = some false → ∃ v, (part t cs off).run P w = .ok v w ∧ RepK Z w k x [v] := fun h1 h2 => by
      rw [h1] at hr
      have hl := hr.len
      rw [h1, List.length_take, List.length_drop, Array.length_toList] at hl
      have hlt : off < cs.size := by omega
      refine ⟨cs[off], ?_, ?_⟩
      · simp [part, run_isAggOf h2, hlt]
      · have : (cs.toList.drop off).take 1 = [cs[off]] := by
          rw [List.drop_eq_getElem_cons (by simpa using hlt)]; simp
        rwa [this] at hr
    unfold eqK at hk
    split at hk
    · rename_i a b hu
      exact plain rfl (by rw [hu]; rfl)
    · rename_i hu
      exact plain rfl (by rw [hu]; rfl)
    · rename_i hu
      exact plain rfl (by rw [hu]; rfl)
    · rename_i fs a b hu
      obtain ⟨i, hi⟩ := info_of_under hu
      refine ⟨.agg (cs.extract off (off + P.cellsOf t)), ?_, _, rfl, ?_⟩
      · have h2 : (P.underlying t).map isAggD = some true := by rw [hu]; rfl
        simp [part, run_isAggOf h2, run_sizeOf' hi]
      · rw [Array.toList_extract, hc]
        simpa [List.extract] using hr
    · cases hk

def keyFields (em : Bool) (d : Nat) (cs : Array Value) : List Field → Sem Unit
  | [] => pure ()
  | f :: fs =>
    if f.name ≠ "_" then do
      let a ← part f.type cs f.offset
      Instr.checkKey em d f.type a
      keyFields em d cs fs
    else keyFields em d cs fs
theorem run_checkKey_struct (em : Bool) (w : World) (d : Nat) (t : TypeId) (cs : Array Value) (fs : Array Field) (ht : P.underlying t = some (.struct fs)) :
    (Instr.checkKey em (d + 1) t (.agg cs)).run P w = (keyFields em d cs fs.toList).run P w := by
  simp only [Instr.checkKey, Sem.run_bind, run_underlying ht, Result.andThen_ok]
  rw [← Array.forIn_toList]
  generalize fs.toList = l
  clear ht
  induction l generalizing w with
  | nil => simp [keyFields]
  | cons f fs ih =>
    simp only [List.forIn_cons, keyFields, Sem.run_bind, Sem.run_ite]
    split
    · generalize (part f.type cs f.offset).run P w = r1
      cases r1 with
      | ok a w1 =>
        simp only [Result.andThen_ok]
        generalize (Instr.checkKey em d f.type a).run P w1 = r2
        cases r2 with
        | ok b w2 =>
          simp only [Result.andThen_ok, Sem.run_pure]
          exact ih w2
        | halt x w2 => simp [Result.andThen]
      | halt x w1 => simp [Result.andThen]
    · simp only [Sem.run_pure, Result.andThen_ok]
      exact ih w

theorem eqFs_run {Z : Nat → Prop} {D d : Nat} (em : Bool) (hg : ∀ t k, eqK P d t k = true → ∀ (w : World) (x y : k.T) (u v : Value), VK w Z k x u → VK w Z k y v → (Op.equalIn (D + d) t u v).run P w = .ok (eqT k x y) w ∧ (Instr.checkKey em (D + d) t u).run P w = .ok () w) (w : World) (xs ys : Array Value) :
    ∀ (fs : List Field) (off : Nat) (k : K), eqFs P (eqK P d) fs off k = true → ∀ (x y : k.T), RepK Z w k x ((xs.toList.drop off).take k.sz) → RepK Z w k y ((ys.toList.drop off).take k.sz) →
      (Op.eqFields (D + d) xs ys fs).run P w = .ok (eqT k x y) w ∧ (keyFields em (D + d) xs fs).run P w = .ok () w
  | [], _, _, h, _, _, _, _ => by simp [eqFs] at h
  | [f], off, k, h, x, y, hx, hy => by
    have h' : f.name ≠ "_" ∧ f.offset = off ∧ P.cellsOf f.type = k.sz ∧ eqK P d f.type k = true := by
      cases k <;> simpa [eqFs] using h
    obtain ⟨h0, h1, h2, h3⟩ := h'
    subst h1
    obtain ⟨u, hu, hu'⟩ := part_of h3 h2 hx
    obtain ⟨v, hv, hv'⟩ := part_of h3 h2 hy
    obtain ⟨e1, e2⟩ := hg _ _ h3 w x y u v hu' hv'
    constructor
    · simp only [Op.eqFields, if_pos h0, Sem.run_bind, hu, hv, e1, Result.andThen_ok]
      cases eqT k x y <;> simp
    · simp [keyFields, h0, hu, e2]
  | f :: f' :: r, off, .pair a b, h, x, y, hx, hy => by
    simp only [eqFs, Bool.and_eq_true, decide_eq_true_eq, bne_iff_ne, ne_eq] at h
    obtain ⟨h0, h1, h2, h3, h4⟩ := h
    subst h1
    simp only [RepK, K.sz] at hx hy
    obtain ⟨us, ws, ex, hx1, hx2⟩ := hx
    obtain ⟨us', ws', ey, hy1, hy2⟩ := hy
    have sp : ∀ (zs : Array Value) (us ws : List Value), us.length = a.sz → ws.length = b.sz → (zs.toList.drop f.offset).take (a.sz + b.sz) = us ++ ws → us = (zs.toList.drop f.offset).take a.sz ∧ ws = (zs.toList.drop (f.offset + a.sz)).take b.sz := fun zs us ws l1 l2 e => by
      rw [List.take_add, ] at e
      have hl : ((zs.toList.drop f.offset).take a.sz).length = us.length := by
        have := congrArg List.length e
        simp only [List.length_append, List.length_take, List.length_drop] at this ⊢
        omega
      obtain ⟨e1, e2⟩ := List.append_inj e hl
      exact ⟨e1.symm, by rw [← e2, List.drop_drop]⟩
    obtain ⟨rfl, rfl⟩ := sp xs us ws hx1.len hx2.len ex
    obtain ⟨rfl, rfl⟩ := sp ys us' ws' hy1.len hy2.len ey
    obtain ⟨u, hu, hu'⟩ := part_of h3 h2 hx1
    obtain ⟨v, hv, hv'⟩ := part_of h3 h2 hy1
    obtain ⟨e1, e2⟩ := hg _ _ h3 w x.1 y.1 u v hu' hv'
    obtain ⟨e3, e4⟩ := eqFs_run em hg w xs ys (f' :: r) (f.offset + a.sz) b h4 x.2 y.2 hx2 hy2
    constructor
    · rw [Op.eqFields, if_pos h0]
      simp only [Sem.run_bind, hu, hv, e1, Result.andThen_ok, Sem.run_ite, e3, eqT]
      cases eqT a x.1 y.1 <;> simp
    · rw [keyFields, if_pos h0]
      simp only [Sem.run_bind, hu, e2, Result.andThen_ok]
      exact e4
  | f :: f' :: r, off, .int _, h, _, _, _, _ => by simp [eqFs] at h
  | f :: f' :: r, off, .bool, h, _, _, _, _ => by simp [eqFs] at h
  | f :: f' :: r, off, .str, h, _, _, _, _ => by simp [eqFs] at h
  | f :: f' :: r, off, .sl _, h, _, _, _, _ => by simp [eqFs] at h
  | f :: f' :: r, off, .one _, h, _, _, _, _ => by simp [eqFs] at h
  | f :: f' :: r, off, .mp _ _, h, _, _, _, _ => by simp [eqFs] at h

theorem eqK_run {Z : Nat → Prop} (D : Nat) (em : Bool) : ∀ (d : Nat) (t : TypeId) (k : K), eqK P d t k = true → ∀ (w : World) (x y : k.T) (u v : Value), VK w Z k x u → VK w Z k y v →
    (Op.equalIn (D + d) t u v).run P w = .ok (eqT k x y) w ∧ (Instr.checkKey em (D + d) t u).run P w = .ok () w
  | 0, _, _, h, _, _, _, _, _, _, _ => by simp [eqK] at h
  | d + 1, t, k, h, w, x, y, u, v, hu, hv => by
    rw [← Nat.add_assoc]
    unfold eqK at h
    split at h
    · rename_i a b ht
      simp only [decide_eq_true_eq] at h; subst h
      simp only [VK, RepK, List.cons.injEq, and_true] at hu hv
      subst hu; subst hv
      exact ⟨run_equalIn_int w _ _ _ _ _ _ ht, by simp [Instr.checkKey, run_underlying ht]⟩
    · rename_i ht
      simp only [VK, RepK, List.cons.injEq, and_true] at hu hv
      subst hu; subst hv
      exact ⟨run_equalIn_bool' w _ _ _ _ ht, by simp [Instr.checkKey, run_underlying ht]⟩
    · rename_i ht
      simp only [VK, RepK, List.cons.injEq, and_true] at hu hv
      subst hu; subst hv
      exact ⟨(run_equalIn_string w _ _ _ _ ht).trans (congrArg (fun b => Result.ok b w) (beq_toListBytes (show ByteArray from x) (show ByteArray from y)).symm), by simp [Instr.checkKey, run_underlying ht]⟩
    · rename_i fs a b ht
      simp only [Bool.and_eq_true, Bool.not_eq_true'] at h
      obtain ⟨hs, hf⟩ := h
      obtain ⟨xs, rfl, hx⟩ := hu
      obtain ⟨ys, rfl, hy⟩ := hv
      have hfo : P.fieldsOf t = fs := by simp [Program.fieldsOf, ht]
      have hxl := hx.len
      have hyl := hy.len
      obtain ⟨e1, e2⟩ := eqFs_run (D := D) (Z := Z) em (fun t k hk w x y u v hu hv => eqK_run D em d t k hk w x y u v hu hv) w xs ys fs.toList 0 (.pair a b) hf x y
        (by rw [List.drop_zero, List.take_of_length_le (by omega)]; exact hx) (by rw [List.drop_zero, List.take_of_length_le (by omega)]; exact hy)
      constructor
      · rw [run_equalIn_struct w (D + d) t xs ys (by rw [hfo]; exact ht) hs, hfo]; exact e1
      · rw [run_checkKey_struct em w (D + d) t xs fs ht]; exact e2
    · cases h

theorem eqFact_of {d : Nat} {t : TypeId} {a b : K} (hd : d ≤ 10000) (hk : eqK P d t (.pair a b) = true) (hg : P.eqGuardType P.depth t = false) : EqFact P t (.pair a b) := fun Z w x y xs ys hx hy => by
  have e : 10000 - d + d = 10000 := by omega
  have key := fun em => eqK_run (Z := Z) (10000 - d) em d t (.pair a b) hk w x y (.agg xs) (.agg ys) ⟨xs, rfl, hx⟩ ⟨ys, rfl, hy⟩
  rw [e] at key
  exact ⟨(key true).1, fun op p q => run_eqGuard_agg w op t p q xs ys hg, fun em => (key em).2⟩
end Go.Vs

set_option linter.unusedVariables false
set_option linter.unusedSimpArgs false
namespace Go.Vs
open Go.Proofs

theorem sg_mem {f : FuncId} {g : Sig} (h : Sg f = some g) : (f, g) ∈ sgs := by
  unfold Sg at h
  obtain ⟨p, hp, rfl⟩ := Option.map_eq_some_iff.1 h
  have h1 := List.mem_of_find?_eq_some hp
  have h2 := List.find?_some hp
  have : p.1 = f := by simpa using h2
  subst this
  exact h1

theorem callable_all : ∀ f g, Sg f = some g → Callable Tryz.prog (f % 1000) := fun f g h => by
  have hm := sg_mem h
  have key : (sgs.all fun p => match Tryz.prog.funcs[p.1 % 1000]? with | some fn => !(fn.name == "runtime.NumGoroutine") && fn.body.isSome | none => false) = true := by kernel_rfl
  have := List.all_eq_true.1 key _ hm
  simp only at this
  split at this
  · rename_i fn hf
    simp only [Bool.and_eq_true, Bool.not_eq_true'] at this
    exact ⟨fn, hf, this.1, this.2⟩
  · cases this

theorem mixed_all : Tryz.prog.follows .mixedOrders = true := by kernel_rfl

theorem eq_all : ∀ t k, Eqs t = some k → EqFact Tryz.prog t k := fun t k h => by
  unfold Eqs at h
  obtain ⟨p, hp, rfl⟩ := Option.map_eq_some_iff.1 h
  have h1 := List.mem_of_find?_eq_some hp
  have h2 := List.find?_some hp
  have e : p.1 = t := by simpa using h2
  subst e
  simp only [eqs, List.mem_cons, List.not_mem_nil, or_false] at h1
  rcases h1 with rfl | rfl | rfl | rfl | rfl | rfl
  all_goals exact eqFact_of (d := 5) (by omega) (by kernel_rfl) (by kernel_rfl)
end Go.Vs

set_option linter.unusedVariables false
set_option maxRecDepth 1000000
set_option maxHeartbeats 0
namespace Go.Vs
open Go.Proofs
def sgRV : Sig := { ps := [.own], bs := [.own (.row 48 k47)], rs := [.own (.row 48 k47)] }
def sgRE : Sig := { ps := [.own], bs := [.own (.row 56 k55)], rs := [.own (.row 56 k55)] }
def sgCl : Sig := { ps := [.agg 2], bs := [.own (.row 48 k47), .own (.row 56 k55)], rs := [.agg [.own (.row 48 k47), .own (.row 56 k55)]] }
/-- slices.Clone at a row of one's own. -/
def cloneRX (ty : TypeId) (k : K) (h : Heap) (id : Nat) : List AV → Option (Bool × Eff)
  | [.osl a] => match ownAt h (.row ty k) (.osl a) with
    | some xs => some (fitsN 0 xs.length, .new (.osl (id + 128)) [(id + 128, .own (.row ty k) xs)])
    | _ => none
  | _ => none
def sgXV : Sig := { ps := [], bs := [], rs := [], x := some (cloneRX 48 k47) }
def sgXE : Sig := { ps := [], bs := [], rs := [], x := some (cloneRX 56 k55) }
def sgs0 : List (Nat × Sig) := [(500079, sgRV), (500080, sgRE)]
def Sg0 (f : FuncId) : Option Sig := (sgs0.find? (fun p => p.1 == f)).map (fun p => p.2)
def sgs1 : List (Nat × Sig) := [(81, sg81), (500060, sgCl), (500079, sgXV), (500080, sgXE)]
def Sg1 (f : FuncId) : Option Sig := (sgs1.find? (fun p => p.1 == f)).map (fun p => p.2)
def shC_0 : Shape := ⟨[(14, .int .i64), (15, .int .i64)], [(.slot 2, 20000, .box 25 [.own (.row 48 k47), .own (.row 56 k55)]), (.slot 3, 20001, .box 25 [.own (.row 48 k47), .own (.row 56 k55)])], [(6, 1000, (.row 48 (.pair (.pair (.int .i64) (.int .i64)) (.pair (.sl (.pair (.pair (.int .i64) (.int .i64)) (.int .i64))) (.pair .str (.int .i64)))))), (9, 1020, (.row 56 (.pair (.pair (.int .i64) (.int .i64)) (.pair .str (.int .i64)))))], []⟩
def An0 (f : FuncId) (key : Nat) : Option Shape := none
def An1 (f : FuncId) (key : Nat) : Option Shape := if f = 500060 then (if key = 3 then some shC_0 else none) else none
noncomputable def nfEG (SG : FuncId → Option Sig) (AN : FuncId → Nat → Option Shape) (f : FuncId) (g : Sig) (fn : Func) (F : FT) (J : JT g) (x : g.A) : Option g.B := execItems Tryz.prog Eqs SG F fn.ntmps (AN f) J (retOf Tryz.prog g fn) fuel [.code (fn.body.getD .skip)] (entry g x)
noncomputable def nlEG (SG : FuncId → Option Sig) (AN : FuncId → Nat → Option Shape) (f j : Nat) (g : Sig) (fn : Func) (sh : Shape) (F : FT) (J : JT g) (x : sh.T) : Option g.B := execItems Tryz.prog Eqs SG F fn.ntmps (AN f) J (retOf Tryz.prog g fn) fuel (round (seg Tryz.prog (f % 1000) j)) (fromHead sh x)
theorem nfc79 (F : FT) (J : JT sgRV) (x : (Unit × ((List Vert) × Unit))) : nfEG Sg0 An0 500079 sgRV Tryz.f79 F J x =
  cond (List.isEmpty x.2.1)
   (anyN 2 fun (j1 : Nat) =>
   cond ((j1 == 0) == true)
    (some ((([] : List Vert), ()), x.2))
    (cond (fitsN (List.length ([] : List Vert)) (List.length x.2.1))
     (some (((([] : List Vert) ++ x.2.1), ()), x.2))
     (none)))
   (cond (fitsN (List.length ([] : List Vert)) (List.length x.2.1))
    (some (((([] : List Vert) ++ x.2.1), ()), x.2))
    (none)) := by kernel_rfl
theorem nfc80 (F : FT) (J : JT sgRE) (x : (Unit × ((List EdgeT) × Unit))) : nfEG Sg0 An0 500080 sgRE Tryz.f80 F J x =
  cond (List.isEmpty x.2.1)
   (anyN 2 fun (j1 : Nat) =>
   cond ((j1 == 0) == true)
    (some ((([] : List EdgeT), ()), x.2))
    (cond (fitsN (List.length ([] : List EdgeT)) (List.length x.2.1))
     (some (((([] : List EdgeT) ++ x.2.1), ()), x.2))
     (none)))
   (cond (fitsN (List.length ([] : List EdgeT)) (List.length x.2.1))
    (some (((([] : List EdgeT) ++ x.2.1), ()), x.2))
    (none)) := by kernel_rfl
theorem nfc81 (F : FT) (J : JT sg81) (x : (((List Dart) × Unit) × Unit)) : nfEG Sg1 An1 81 sg81 Tryz.f81 F J x =
  cond (List.isEmpty x.1.1)
   (anyN 2 fun (j1 : Nat) =>
   cond ((j1 == 0) == true)
    (some ((([] : List Dart), ()), ()))
    (cond (fitsN (List.length ([] : List Dart)) (List.length x.1.1))
     (some (((([] : List Dart) ++ x.1.1), ()), ()))
     (none)))
   (cond (fitsN (List.length ([] : List Dart)) (List.length x.1.1))
    (some (((([] : List Dart) ++ x.1.1), ()), ()))
    (none)) := by kernel_rfl
theorem nfc60 (F : FT) (J : JT sgCl) (x : (Unit × ((List Vert) × ((List EdgeT) × Unit)))) : nfEG Sg1 An1 500060 sgCl Tryz.f60 F J x =
  cond (fitsN 0 (List.length x.2.1))
   (cond (fitsN 0 (List.length x.2.2.1))
    (J shC_0 (seg Tryz.prog 60 0) (((((List.length x.2.1) : Nat) : Int), ((0 : Int), ())), (((([] : List Vert), (([] : List EdgeT), ())), ((x.2.1, x.2.2), ())), (x.2.1, x.2.2))))
    (none))
   (none) := by kernel_rfl
theorem nlc60_0 (F : FT) (J : JT sgCl) (x : ((Int × (Int × Unit)) × ((((List Vert) × ((List EdgeT) × Unit)) × (((List Vert) × ((List EdgeT) × Unit)) × Unit)) × ((List Vert) × ((List EdgeT) × Unit))))) : nlEG Sg1 An1 500060 0 sgCl Tryz.f60 shC_0 F J x =
  cond (decide (x.1.2.1 < x.1.1))
   (cond ((decide ((0 : Int) ≤ x.1.2.1)) && (decide (x.1.2.1 < (((List.length x.2.1.2.1.1) : Nat) : Int))))
    (((x.2.1.2.1.1)[(Int.toNat x.1.2.1)]?).bind fun (y1 : Vert) =>
    (F 81 sg81 ((y1.2.1, ()), ())).bind fun (y2 : (((List Dart) × Unit) × Unit)) =>
    cond ((decide ((0 : Int) ≤ x.1.2.1)) && (decide (x.1.2.1 < (((List.length x.2.1.2.1.1) : Nat) : Int))))
     (((x.2.1.2.1.1)[(Int.toNat x.1.2.1)]?).bind fun (y3 : Vert) =>
     J shC_0 (seg Tryz.prog 60 0) ((x.1.1, ((IntKind.wrap .i64 (x.1.2.1 + (1 : Int))), ())), (((x.2.1.1.1, x.2.1.1.2), (((List.set x.2.1.2.1.1 (Int.toNat x.1.2.1) (y3.1, (y2.1.1, y3.2.2))), x.2.1.2.1.2), ())), (x.2.2.1, x.2.2.2))))
     (none))
    (none))
   (some (((x.2.1.2.1.1, x.2.1.2.1.2), ()), (x.2.2.1, x.2.2.2))) := by kernel_rfl
end Go.Vs

set_option linter.unusedVariables false
set_option linter.unusedSimpArgs false
namespace Go.Vs
open Go.Proofs
variable {P : Program}
theorem cloneRX_sound {f : FuncId} {ty : TypeId} {k : K} (hf : f % 1000 = f) (hc : ∀ (xs : List k.T), fitsN 0 xs.length = true → Con P f ⟨[.own], [.own (.row ty k)], [.own (.row ty k)], none⟩ ((), (xs, ())) ((xs, ()), (xs, ()))) : XSound P f (cloneRX ty k) := by
  intro Z ψ h w B0 O N hh id e vs us g hB hsub hN hment hwr hvs hms he
  unfold cloneRX at he
  split at he
  rotate_left
  · cases he
  rename_i a
  split at he
  rotate_left
  · cases he
  rename_i xs hxs
  simp only [Option.some.injEq, Prod.mk.injEq] at he
  obtain ⟨hok, rfl⟩ := he
  have ha : h a = some (.own (.row ty k) xs) := hsub _ _ (ownAt_osl hxs)
  have ha0 : h a ≠ none := by rw [ha]; simp
  simp only [RepL, Rep] at hvs
  obtain ⟨v1, _, rfl, ⟨_, hv1⟩, rfl⟩ := hvs
  have hv1 := hv1 ha0
  subst hv1
  simp only [MentL, Ment] at hms
  have nR0 : N (id + 128) := hN 128 (by omega)
  have na : ¬ N a := hms.1
  have a0 : a ≠ id + 128 := fun e => na (e ▸ nR0)
  let ψ0 : Nat → Value := fun i => if i = 1000 then ψ a else ψ i
  have p0 : ψ0 1000 = ψ a := if_pos rfl
  let g0 : Sig := ⟨[.own], [.own (.row ty k)], [.own (.row ty k)], none⟩
  have hin : inH g0 ((), (xs, ())) = Heap.get [(1000, .own (.row ty k) xs)] := rfl
  have i0 : inH g0 ((), (xs, ())) 1000 = some (.own (.row ty k) xs) := rfl
  have iN : ∀ i, inH g0 ((), (xs, ())) i ≠ none → i = 1000 := fun i hi => by
    by_cases e0 : i = 1000
    · exact e0
    rw [hin] at hi
    simp [Heap.get, Ne.symm e0] at hi
  have oin : ∀ q, Own ψ0 (inH g0 ((), (xs, ()))) q → ob (ψ a) = some q := fun q ⟨i, h1, h2⟩ => by
    have := iN i h1
    subst this
    rw [← p0]; exact h2
  have oh : ∀ q, Own ψ0 (inH g0 ((), (xs, ()))) q → Own ψ h q := fun q hq => ⟨a, ha0, oin q hq⟩
  have G0 : Good Z ψ0 (inH g0 ((), (xs, ()))) w w.heap.size (Own ψ0 (inH g0 ((), (xs, ())))) := by
    refine ⟨fun i ty cs k => ?_, fun i ok x k => ?_, fun i q h1 h2 => ⟨fun hz => ?_, .inr ⟨i, h1, h2⟩⟩, fun i j q h1 h2 h3 h4 => ?_, g.zlt⟩
    · have := iN i (by rw [k]; simp)
      subst this
      rw [i0] at k; cases k
    · have := iN i (by rw [k]; simp)
      subst this
      rw [i0] at k; cases k; rw [p0]; exact g.row a _ _ ha
    · have := iN i h1
      subst this
      rw [p0] at h2; exact (g.live a q ha0 h2).1 hz
    · rw [iN i h1, iN j h2]
  have c0 : (ψ a).cells = #[ψ a] ∧ (ψ a).oneCell' = true := (g.row a _ _ ha).one
  have R0 : RepL Z ψ0 (inH g0 ((), (xs, ()))) w (argsAV g0 ((), (xs, ()))) [ψ a] := by
    show RepL Z ψ0 (inH g0 ((), (xs, ()))) w [.osl 1000] [ψ a]
    simp only [RepL, Rep]
    exact ⟨ψ a, [], rfl, ⟨c0, fun _ => p0.symm⟩, rfl⟩
  have hcc := hc xs hok Z ψ0 w [ψ a] G0 R0
  rw [hf] at hcc
  refine hcc.mono fun en w' ⟨V, Z', ψ', e1, zs, zf, kp, gd, hid, hr⟩ => ?_
  have q0 : ψ' 1000 = ψ a := (hid 1000 (by show 1000 ∈ [1000]; simp)).trans p0
  have o0 : (outH g0 ((xs, ()), (xs, ()))).get 1000 = some (.own (.row ty k) xs) := rfl
  have o2 : (outH g0 ((xs, ()), (xs, ()))).get 3000 = some (.own (.row ty k) xs) := rfl
  have gd : Good Z' ψ' (outH g0 ((xs, ()), (xs, ()))).get w' w.heap.size (Own ψ0 (inH g0 ((), (xs, ())))) := gd
  have hr : Rep Z' ψ' (outH g0 ((xs, ()), (xs, ()))).get w' (.osl 3000) V := hr
  generalize (outH g0 ((xs, ()), (xs, ()))).get = out at *
  have keep : Keep ψ h w w' := ⟨kp.os, kp.tape, kp.output, kp.size, fun q hq hn => kp.block q hq fun ho => hn (oh q ho)⟩
  have sm : Same Z w w' := keep.same g
  have old : ∀ i q, i ≠ a → h i ≠ none → ob (ψ i) = some q → w'.heap[q]? = w.heap[q]? := fun i q k1 h1 h2 =>
    kp.block q (g.own_lt ⟨i, h1, h2⟩) fun ho => k1 (g.apart i a q h1 ha0 h2 (oin q ho))
  let ψ2 : Nat → Value := fun i => if i = id + 128 then ψ' 3000 else ψ i
  let H : Hp := (Eff.new (.osl (id + 128)) [(id + 128, .own (.row ty k) xs)]).hp h
  have s0 : ψ2 (id + 128) = ψ' 3000 := if_pos rfl
  have sn : ∀ i, i ≠ id + 128 → ψ2 i = ψ i := fun i k1 => if_neg k1
  have H0 : H (id + 128) = some (.own (.row ty k) xs) := by show (Eff.hp h _) _ = _; simp [Eff.hp, Heap.get]
  have Hn : ∀ i, i ≠ id + 128 → H i = h i := fun i k1 => by show (Eff.hp h _) _ = _; simp [Eff.hp, Heap.get, Ne.symm k1]
  have two : ∀ q, ob (ψ' 3000) = some q → ¬ Z' q ∧ (w.heap.size ≤ q ∨ ob (ψ a) = some q) := fun q h2 => by
    obtain ⟨h3, h4⟩ := gd.live 3000 q (by rw [o2]; simp) h2
    exact ⟨h3, h4.imp (fun h => h) (oin q)⟩
  have one : ∀ q, ob (ψ a) = some q → ¬ Z' q := fun q h2 => (gd.live 1000 q (by rw [o0]; simp) (by rw [q0]; exact h2)).1
  have notboth : ∀ q, ob (ψ' 3000) = some q → ob (ψ a) = some q → False := fun q h2 h3 => by
    have := gd.apart 3000 1000 q (by rw [o2]; simp) (by rw [o0]; simp) h2 (by rw [q0]; exact h3)
    omega
  have fresh : ∀ q, ob (ψ' 3000) = some q → w.heap.size ≤ q := fun q h2 => (two q h2).2.resolve_right (notboth q h2)
  have ids : ∀ i, H i ≠ none → (h i ≠ none ∧ ψ2 i = ψ i) ∨ N i := fun i hi => by
    by_cases k1 : i = id + 128
    · exact .inr (k1 ▸ nR0)
    · rw [Hn i k1] at hi
      exact .inl ⟨hi, sn i k1⟩
  have live : ∀ i q, i ≠ id + 128 → h i ≠ none → ob (ψ i) = some q → ¬ Z' q := fun i q k1 h1 h2 hz => by
    by_cases k3 : i = a
    · subst k3; exact one q h2 hz
    rcases zf q hz with k | k | k
    · exact (g.live i q h1 h2).1 k
    · exact k3 (g.apart i a q h1 ha0 h2 (oin q k))
    · have := g.own_lt ⟨i, h1, h2⟩; omega
  refine ⟨V, Z', ψ2, e1, ⟨zs, fun q hq => (zf q hq).imp (fun h => h) fun k => k.imp (oh q) fun h => h, keep, ids, ⟨fun i ty' cs k => ?_, fun i ok x k => ?_, fun i q h1 h2 => ?_, fun i j q h1 h2 h3 h4 => ?_, gd.zlt⟩⟩, ?_⟩
  · have k1 : i ≠ id + 128 := fun e => by rw [e] at k; have k : H (id + 128) = some (.box ty' cs) := k; rw [H0] at k; cases k
    have k3 : i ≠ a := fun e => by rw [e] at k; have k : H a = some (.box ty' cs) := k; rw [(Hn a a0).trans ha] at k; cases k
    have hbx : h i = some (.box ty' cs) := (Hn i k1).symm.trans k
    obtain ⟨gg, vs, f1, f2, f3, f4⟩ := g.box i ty' cs hbx
    exact ⟨gg, vs, (sn i k1).trans f1, (old i gg k3 (by rw [hbx]; simp) (by rw [f1]; rfl)).trans f2, f3.move zs sm (fun j hj hne => (ids j hne).resolve_right hj) (hment i ty' cs hbx), f4⟩
  · by_cases k1 : i = id + 128
    · subst k1
      have k : H (id + 128) = some (.own ok x) := k
      rw [H0] at k; cases k
      rw [s0]; exact gd.row 3000 _ _ o2
    have hbx : h i = some (.own ok x) := (Hn i k1).symm.trans k
    rw [sn i k1]
    by_cases k3 : i = a
    · subst k3
      rw [ha] at hbx; cases hbx
      rw [← q0]; exact gd.row 1000 _ _ o0
    exact (g.row i ok x hbx).kept zs sm fun q hq => old i q k3 (by rw [hbx]; simp) hq
  · by_cases k1 : i = id + 128
    · subst k1
      have h2 : ob (ψ2 (id + 128)) = some q := h2
      rw [s0] at h2
      exact ⟨(two q h2).1, .inl (Nat.le_trans hB (fresh q h2))⟩
    · have h1 : h i ≠ none := by rw [← Hn i k1]; exact h1
      rw [sn i k1] at h2
      exact ⟨live i q k1 h1 h2, (g.live i q h1 h2).2⟩
  · have lt : ∀ j, j ≠ id + 128 → H j ≠ none → ob (ψ2 j) = some q → q < w.heap.size := fun j k1 k2 k3 => by
      rw [Hn j k1] at k2
      rw [sn j k1] at k3
      exact g.own_lt ⟨j, k2, k3⟩
    by_cases k1 : i = id + 128 <;> by_cases k2 : j = id + 128
    · exact k1.trans k2.symm
    · subst k1
      have h3 : ob (ψ2 (id + 128)) = some q := h3
      rw [s0] at h3
      have := fresh q h3
      have := lt j k2 h2 h4
      omega
    · subst k2
      have h4 : ob (ψ2 (id + 128)) = some q := h4
      rw [s0] at h4
      have := fresh q h4
      have := lt i k1 h1 h3
      omega
    · rw [sn i k1] at h3
      rw [sn j k2] at h4
      exact g.apart i j q (by rw [← Hn i k1]; exact h1) (by rw [← Hn j k2]; exact h2) h3 h4
  · simp only [Rep] at hr
    show Rep Z' ψ2 H w' (.osl (id + 128)) V
    simp only [Rep]
    exact ⟨hr.1, fun _ => (hr.2 (by rw [o2]; simp)).trans s0.symm⟩
end Go.Vs

set_option linter.unusedVariables false
set_option linter.unusedSimpArgs false
namespace Go.Vs
open Go.Proofs
variable {P : Program}
theorem cloneX_sound (hc : ∀ (xs : List k47.T) (ys : List k55.T), cloneOk xs ys = true → Con P 60 sgCl ((), (xs, (ys, ()))) (((xs, (ys, ())), ()), (xs, (ys, ())))) : XSound P 60 cloneX := by
  intro Z ψ h w B0 O N hh id e vs us g hB hsub hN hment hwr hvs hms he
  unfold cloneX at he
  split at he
  rotate_left
  · cases he
  rename_i a b
  split at he
  rotate_left
  · cases he
  rename_i xs ys hxs hys
  split at he
  · cases he
  rename_i hab
  simp only [Option.some.injEq, Prod.mk.injEq] at he
  obtain ⟨hok, rfl⟩ := he
  have ha : h a = some (.own (.row 48 k47) xs) := hsub _ _ (ownAt_osl hxs)
  have hb : h b = some (.own (.row 56 k55) ys) := hsub _ _ (ownAt_osl hys)
  have ha0 : h a ≠ none := by rw [ha]; simp
  have hb0 : h b ≠ none := by rw [hb]; simp
  simp only [RepL, Rep] at hvs
  obtain ⟨v, _, rfl, ⟨cs, rfl, v1, _, hcs, ⟨_, hv1⟩, v2, _, rfl, ⟨_, hv2⟩, rfl⟩, rfl⟩ := hvs
  have hv1 := hv1 ha0
  have hv2 := hv2 hb0
  subst hv1 hv2
  simp only [MentL, Ment] at hms
  have nR0 : N (id + 128) := hN 128 (by omega)
  have nR1 : N (id + 129) := hN 129 (by omega)
  have na : ¬ N a := hms.1.1
  have nb : ¬ N b := hms.1.2.1
  have a0 : a ≠ id + 128 := fun e => na (e ▸ nR0)
  have a1 : a ≠ id + 129 := fun e => na (e ▸ nR1)
  have b0 : b ≠ id + 128 := fun e => nb (e ▸ nR0)
  have b1 : b ≠ id + 129 := fun e => nb (e ▸ nR1)
  -- what the function is handed
  let ψ0 : Nat → Value := fun i => if i = 1000 then ψ a else if i = 1020 then ψ b else ψ i
  have p0 : ψ0 1000 = ψ a := if_pos rfl
  have p1 : ψ0 1020 = ψ b := (if_neg (by decide)).trans (if_pos rfl)
  have hin : inH sgCl ((), (xs, (ys, ()))) = Heap.get [(1000, .own (.row 48 k47) xs), (1020, .own (.row 56 k55) ys)] := rfl
  have i0 : inH sgCl ((), (xs, (ys, ()))) 1000 = some (.own (.row 48 k47) xs) := rfl
  have i1 : inH sgCl ((), (xs, (ys, ()))) 1020 = some (.own (.row 56 k55) ys) := rfl
  have iN : ∀ i, inH sgCl ((), (xs, (ys, ()))) i ≠ none → i = 1000 ∨ i = 1020 := fun i hi => by
    by_cases e0 : i = 1000
    · exact .inl e0
    by_cases e1 : i = 1020
    · exact .inr e1
    rw [hin] at hi
    simp [Heap.get, Ne.symm e0, Ne.symm e1] at hi
  have oin : ∀ q, Own ψ0 (inH sgCl ((), (xs, (ys, ())))) q → ob (ψ a) = some q ∨ ob (ψ b) = some q := fun q ⟨i, h1, h2⟩ => by
    rcases iN i h1 with rfl | rfl
    · exact .inl (by rw [← p0]; exact h2)
    · exact .inr (by rw [← p1]; exact h2)
  have oh : ∀ q, Own ψ0 (inH sgCl ((), (xs, (ys, ())))) q → Own ψ h q := fun q hq => (oin q hq).elim (fun k => ⟨a, ha0, k⟩) fun k => ⟨b, hb0, k⟩
  have G0 : Good Z ψ0 (inH sgCl ((), (xs, (ys, ())))) w w.heap.size (Own ψ0 (inH sgCl ((), (xs, (ys, ()))))) := by
    refine ⟨fun i ty cs k => ?_, fun i ok x k => ?_, fun i q h1 h2 => ⟨fun hz => ?_, .inr ⟨i, h1, h2⟩⟩, fun i j q h1 h2 h3 h4 => ?_, g.zlt⟩
    · rcases iN i (by rw [k]; simp) with rfl | rfl
      · rw [i0] at k; cases k
      · rw [i1] at k; cases k
    · rcases iN i (by rw [k]; simp) with rfl | rfl
      · rw [i0] at k; cases k; rw [p0]; exact g.row a _ _ ha
      · rw [i1] at k; cases k; rw [p1]; exact g.row b _ _ hb
    · rcases iN i h1 with rfl | rfl
      · rw [p0] at h2; exact (g.live a q ha0 h2).1 hz
      · rw [p1] at h2; exact (g.live b q hb0 h2).1 hz
    · rcases iN i h1 with rfl | rfl <;> rcases iN j h2 with rfl | rfl
      · rfl
      · rw [p0] at h3; rw [p1] at h4; exact absurd (g.apart a b q ha0 hb0 h3 h4) hab
      · rw [p1] at h3; rw [p0] at h4; exact absurd (g.apart a b q ha0 hb0 h4 h3) hab
      · rfl
  have c0 : (ψ a).cells = #[ψ a] ∧ (ψ a).oneCell' = true := (g.row a _ _ ha).one
  have c1 : (ψ b).cells = #[ψ b] ∧ (ψ b).oneCell' = true := (g.row b _ _ hb).one
  have R0 : RepL Z ψ0 (inH sgCl ((), (xs, (ys, ())))) w (argsAV sgCl ((), (xs, (ys, ())))) [.agg cs] := by
    show RepL Z ψ0 (inH sgCl ((), (xs, (ys, ())))) w [.agg [.osl 1000, .osl 1020]] [.agg cs]
    simp only [RepL, Rep]
    exact ⟨.agg cs, [], rfl, ⟨cs, rfl, ψ a, [ψ b], hcs, ⟨c0, fun _ => p0.symm⟩, ψ b, [], rfl, ⟨c1, fun _ => p1.symm⟩, rfl⟩, rfl⟩
  refine (hc xs ys hok Z ψ0 w [.agg cs] G0 R0).mono fun en w' ⟨V, Z', ψ', e1, zs, zf, kp, gd, hid, hr⟩ => ?_
  have q0 : ψ' 1000 = ψ a := (hid 1000 (by show 1000 ∈ [1000, 1020]; simp)).trans p0
  have q1 : ψ' 1020 = ψ b := (hid 1020 (by show 1020 ∈ [1000, 1020]; simp)).trans p1
  have o0 : (outH sgCl (((xs, (ys, ())), ()), (xs, (ys, ())))).get 1000 = some (.own (.row 48 k47) xs) := rfl
  have o1 : (outH sgCl (((xs, (ys, ())), ()), (xs, (ys, ())))).get 1020 = some (.own (.row 56 k55) ys) := rfl
  have o2 : (outH sgCl (((xs, (ys, ())), ()), (xs, (ys, ())))).get 3000 = some (.own (.row 48 k47) xs) := rfl
  have o3 : (outH sgCl (((xs, (ys, ())), ()), (xs, (ys, ())))).get 3001 = some (.own (.row 56 k55) ys) := rfl
  generalize (outH sgCl (((xs, (ys, ())), ()), (xs, (ys, ())))).get = out at *
  have keep : Keep ψ h w w' := ⟨kp.os, kp.tape, kp.output, kp.size, fun q hq hn => kp.block q hq fun ho => hn (oh q ho)⟩
  have sm : Same Z w w' := keep.same g
  have old : ∀ i q, i ≠ a → i ≠ b → h i ≠ none → ob (ψ i) = some q → w'.heap[q]? = w.heap[q]? := fun i q k1 k2 h1 h2 =>
    kp.block q (g.own_lt ⟨i, h1, h2⟩) fun ho => (oin q ho).elim (fun k => k1 (g.apart i a q h1 ha0 h2 k)) fun k => k2 (g.apart i b q h1 hb0 h2 k)
  -- names
  let κ : Nat → Nat := fun i => if i = id + 128 then 3000 else if i = id + 129 then 3001 else if i = a then 1000 else 1020
  let In4 : Nat → Prop := fun i => i = id + 128 ∨ i = id + 129 ∨ i = a ∨ i = b
  let ψ2 : Nat → Value := fun i => if i = id + 128 then ψ' 3000 else if i = id + 129 then ψ' 3001 else ψ i
  let H : Hp := (Eff.new (.agg [.osl (id + 128), .osl (id + 129)]) [(id + 128, .own (.row 48 k47) xs), (id + 129, .own (.row 56 k55) ys)]).hp h
  have s0 : ψ2 (id + 128) = ψ' 3000 := if_pos rfl
  have s1 : ψ2 (id + 129) = ψ' 3001 := (if_neg (by omega)).trans (if_pos rfl)
  have sn : ∀ i, i ≠ id + 128 → i ≠ id + 129 → ψ2 i = ψ i := fun i k1 k2 => (if_neg k1).trans (if_neg k2)
  have H0 : H (id + 128) = some (.own (.row 48 k47) xs) := by show (Eff.hp h _) _ = _; simp [Eff.hp, Heap.get]
  have H1 : H (id + 129) = some (.own (.row 56 k55) ys) := by show (Eff.hp h _) _ = _; simp [Eff.hp, Heap.get]
  have Hn : ∀ i, i ≠ id + 128 → i ≠ id + 129 → H i = h i := fun i k1 k2 => by show (Eff.hp h _) _ = _; simp [Eff.hp, Heap.get, Ne.symm k1, Ne.symm k2]
  have Ha : H a = some (.own (.row 48 k47) xs) := (Hn a a0 a1).trans ha
  have Hb : H b = some (.own (.row 56 k55) ys) := (Hn b b0 b1).trans hb
  have kap : ∀ i, In4 i → out (κ i) ≠ none ∧ ψ' (κ i) = ψ2 i := fun i hi => by
    rcases hi with rfl | rfl | rfl | rfl
    · have : κ (id + 128) = 3000 := if_pos rfl
      rw [this, o2, s0]; exact ⟨by simp, rfl⟩
    · have : κ (id + 129) = 3001 := (if_neg (by omega)).trans (if_pos rfl)
      rw [this, o3, s1]; exact ⟨by simp, rfl⟩
    · have : κ i = 1000 := (if_neg a0).trans ((if_neg a1).trans (if_pos rfl))
      rw [this, o0, q0, sn i a0 a1]; exact ⟨by simp, rfl⟩
    · have : κ i = 1020 := (if_neg b0).trans ((if_neg b1).trans (if_neg (fun k => hab k.symm)))
      rw [this, o1, q1, sn i b0 b1]; exact ⟨by simp, rfl⟩
  have kinj : ∀ i j, In4 i → In4 j → κ i = κ j → i = j := fun i j hi hj hk => by
    have v1 : κ (id + 128) = 3000 := if_pos rfl
    have v2 : κ (id + 129) = 3001 := (if_neg (by omega)).trans (if_pos rfl)
    have v3 : κ a = 1000 := (if_neg a0).trans ((if_neg a1).trans (if_pos rfl))
    have v4 : κ b = 1020 := (if_neg b0).trans ((if_neg b1).trans (if_neg (fun k => hab k.symm)))
    rcases hi with rfl | rfl | rfl | rfl <;> rcases hj with rfl | rfl | rfl | rfl <;> first | rfl | (rw [v1] at hk; first | (rw [v2] at hk; cases hk) | (rw [v3] at hk; cases hk) | (rw [v4] at hk; cases hk)) | (rw [v2] at hk; first | (rw [v1] at hk; cases hk) | (rw [v3] at hk; cases hk) | (rw [v4] at hk; cases hk)) | (rw [v3, v4] at hk; cases hk) | (rw [v4, v3] at hk; cases hk)
  have back : ∀ i q, In4 i → ob (ψ2 i) = some q → ¬ Z' q ∧ (w.heap.size ≤ q ∨ ob (ψ a) = some q ∨ ob (ψ b) = some q) := fun i q hi h2 => by
    obtain ⟨k1, k2⟩ := kap i hi
    rw [← k2] at h2
    obtain ⟨h3, h4⟩ := gd.live (κ i) q k1 h2
    exact ⟨h3, h4.imp (fun h => h) (oin q)⟩
  have rest : ∀ i, ¬ In4 i → i ≠ id + 128 ∧ i ≠ id + 129 ∧ i ≠ a ∧ i ≠ b := fun i hi => ⟨fun k => hi (.inl k), fun k => hi (.inr (.inl k)), fun k => hi (.inr (.inr (.inl k))), fun k => hi (.inr (.inr (.inr k)))⟩
  have mixed : ∀ i j q, In4 i → ¬ In4 j → h j ≠ none → ob (ψ2 i) = some q → ob (ψ j) = some q → False := fun i j q hi hj h2 h3 h4 => by
    obtain ⟨_, _, k3, k4⟩ := rest j hj
    rcases (back i q hi h3).2 with k | k | k
    · have := g.own_lt ⟨j, h2, h4⟩; omega
    · exact k3 (g.apart j a q h2 ha0 h4 k)
    · exact k4 (g.apart j b q h2 hb0 h4 k)
  have ids : ∀ i, H i ≠ none → (h i ≠ none ∧ ψ2 i = ψ i) ∨ N i := fun i hi => by
    by_cases k1 : i = id + 128
    · exact .inr (k1 ▸ nR0)
    by_cases k2 : i = id + 129
    · exact .inr (k2 ▸ nR1)
    · rw [Hn i k1 k2] at hi
      exact .inl ⟨hi, sn i k1 k2⟩
  refine ⟨V, Z', ψ2, e1, ⟨zs, fun q hq => (zf q hq).imp (fun h => h) fun k => k.imp (oh q) fun h => h, keep, ids, ⟨fun i ty cs k => ?_, fun i ok x k => ?_, fun i q h1 h2 => ?_, fun i j q h1 h2 h3 h4 => ?_, gd.zlt⟩⟩, ?_⟩
  · have k1 : i ≠ id + 128 := fun e => by rw [e] at k; have k : H (id + 128) = some (.box ty cs) := k; rw [H0] at k; cases k
    have k2 : i ≠ id + 129 := fun e => by rw [e] at k; have k : H (id + 129) = some (.box ty cs) := k; rw [H1] at k; cases k
    have k3 : i ≠ a := fun e => by rw [e] at k; have k : H a = some (.box ty cs) := k; rw [Ha] at k; cases k
    have k4 : i ≠ b := fun e => by rw [e] at k; have k : H b = some (.box ty cs) := k; rw [Hb] at k; cases k
    have hbx : h i = some (.box ty cs) := (Hn i k1 k2).symm.trans k
    obtain ⟨gg, vs, f1, f2, f3, f4⟩ := g.box i ty cs hbx
    exact ⟨gg, vs, (sn i k1 k2).trans f1, (old i gg k3 k4 (by rw [hbx]; simp) (by rw [f1]; rfl)).trans f2, f3.move zs sm (fun j hj hne => (ids j hne).resolve_right hj) (hment i ty cs hbx), f4⟩
  · by_cases k1 : i = id + 128
    · subst k1
      have k : H (id + 128) = some (.own ok x) := k
      rw [H0] at k; cases k
      rw [s0]; exact gd.row 3000 _ _ o2
    by_cases k2 : i = id + 129
    · subst k2
      have k : H (id + 129) = some (.own ok x) := k
      rw [H1] at k; cases k
      rw [s1]; exact gd.row 3001 _ _ o3
    have hbx : h i = some (.own ok x) := (Hn i k1 k2).symm.trans k
    rw [sn i k1 k2]
    by_cases k3 : i = a
    · subst k3
      rw [ha] at hbx; cases hbx
      rw [← q0]; exact gd.row 1000 _ _ o0
    by_cases k4 : i = b
    · subst k4
      rw [hb] at hbx; cases hbx
      rw [← q1]; exact gd.row 1020 _ _ o1
    exact (g.row i ok x hbx).kept zs sm fun q hq => old i q k3 k4 (by rw [hbx]; simp) hq
  · by_cases h4 : In4 i
    · obtain ⟨k1, k2⟩ := back i q h4 h2
      refine ⟨k1, ?_⟩
      rcases k2 with k | k | k
      · exact .inl (Nat.le_trans hB k)
      · exact (g.live a q ha0 k).2
      · exact (g.live b q hb0 k).2
    · obtain ⟨r1, r2, r3, r4⟩ := rest i h4
      have h1 : h i ≠ none := by rw [← Hn i r1 r2]; exact h1
      rw [sn i r1 r2] at h2
      refine ⟨fun hz => ?_, (g.live i q h1 h2).2⟩
      rcases zf q hz with k | k | k
      · exact (g.live i q h1 h2).1 k
      · rcases oin q k with k | k
        · exact r3 (g.apart i a q h1 ha0 h2 k)
        · exact r4 (g.apart i b q h1 hb0 h2 k)
      · have := g.own_lt ⟨i, h1, h2⟩; omega
  · by_cases hi : In4 i <;> by_cases hj : In4 j
    · obtain ⟨k1, k2⟩ := kap i hi
      obtain ⟨k3, k4⟩ := kap j hj
      rw [← k2] at h3
      rw [← k4] at h4
      exact kinj i j hi hj (gd.apart _ _ q k1 k3 h3 h4)
    · obtain ⟨r1, r2, r3, r4⟩ := rest j hj
      rw [sn j r1 r2] at h4
      exact (mixed i j q hi hj (by rw [← Hn j r1 r2]; exact h2) h3 h4).elim
    · obtain ⟨r1, r2, r3, r4⟩ := rest i hi
      rw [sn i r1 r2] at h3
      exact (mixed j i q hj hi (by rw [← Hn i r1 r2]; exact h1) h4 h3).elim
    · obtain ⟨r1, r2, _, _⟩ := rest i hi
      obtain ⟨t1, t2, _, _⟩ := rest j hj
      rw [sn i r1 r2] at h3
      rw [sn j t1 t2] at h4
      exact g.apart i j q (by rw [← Hn i r1 r2]; exact h1) (by rw [← Hn j t1 t2]; exact h2) h3 h4
  · have hr : Rep Z' ψ' out w' (.agg [.osl 3000, .osl 3001]) V := hr
    simp only [Rep, RepL] at hr
    obtain ⟨vs, rfl, u1, _, hvs, ⟨d1, d2⟩, u2, _, rfl, ⟨d3, d4⟩, rfl⟩ := hr
    show Rep Z' ψ2 H w' (.agg [.osl (id + 128), .osl (id + 129)]) (.agg vs)
    simp only [Rep, RepL]
    exact ⟨vs, rfl, u1, [u2], hvs, ⟨d1, fun _ => (d2 (by rw [o2]; simp)).trans s0.symm⟩, u2, [], rfl, ⟨d3, fun _ => (d4 (by rw [o3]; simp)).trans s1.symm⟩, rfl⟩
end Go.Vs

set_option linter.unusedVariables false
set_option linter.unusedSimpArgs false
namespace Go.Vs
open Go.Proofs
abbrev NoG0 : (f : FuncId) → (g : Sig) → Option (g.A → Option g.B) := fun _ _ => none
section
variable (SG : FuncId → Option Sig) (AN : FuncId → Nat → Option Shape)
noncomputable abbrev FXG : FT := Fix Tryz.prog Eqs SG AN NoG0
noncomputable abbrev LXG (f : FuncId) (g : Sig) (fn : Func) : JT g := Lp Tryz.prog Eqs SG AN NoG0 f g fn
end
theorem fxg_of {SG : FuncId → Option Sig} {AN : FuncId → Nat → Option Shape} {f : FuncId} {g : Sig} {fn : Func} {x : g.A} {y : g.B} (hb : body Tryz.prog (f % 1000) = some (fn, fn.body.getD .skip)) (hc : (decide (g.ps.length ≤ fn.ntmps) && decide (g.bs.length ≤ 8)) = true)
    (h : nfEG SG AN f g fn (FXG SG AN) (LXG SG AN f g fn) x = some y) : FXG SG AN f g x = some y := Fix_run rfl hb hc h
theorem lxg_of {SG : FuncId → Option Sig} {AN : FuncId → Nat → Option Shape} {f j : Nat} {g : Sig} {fn : Func} {sh : Shape} {x : sh.T} {y : g.B} (hs : (match seg Tryz.prog (f % 1000) j with | .inLoop _ :: _ => true | _ => false) = true)
    (h : nlEG SG AN f j g fn sh (FXG SG AN) (LXG SG AN f g fn) x = some y) : LXG SG AN f g fn sh (seg Tryz.prog (f % 1000) j) x = some y := by
  unfold nlEG at h
  generalize seg Tryz.prog (f % 1000) j = s at hs h ⊢
  split at hs
  · exact Lp_run h
  · cases hs
theorem gb_of {α β : Type} {o : Option α} {f : α → Option β} {a : α} {r : Option β} (h : o = some a) (k : f a = r) : o.bind f = r := by rw [h]; exact k
theorem gc_T {α : Type} {c : Bool} {x y r : α} (h : c = true) (k : x = r) : cond c x y = r := by subst h; exact k
theorem gc_F {α : Type} {c : Bool} {x y r : α} (h : c = false) (k : y = r) : cond c x y = r := by subst h; exact k
theorem ga_of {R : Type} {f : Nat → Option R} {r : R} (h0 : f 0 = some r) (h1 : f 1 = some r) : anyN 2 f = some r :=
  anyN_of (by omega) fun j hj => by
    rcases j with _ | _ | j
    · exact h0
    · exact h1
    · omega
theorem fxc79 (xs : List Vert) (h : fitsN 0 xs.length = true) : FXG Sg0 An0 500079 sgRV ((), (xs, ())) = some ((xs, ()), (xs, ())) := by
  refine fxg_of (fn := Tryz.f79) (by kernel_rfl) (by kernel_rfl) ((nfc79 _ _ _).trans ?_)
  cases xs with
  | nil => exact gc_T rfl (ga_of rfl rfl)
  | cons x r => exact gc_F rfl (gc_T h rfl)
theorem fxc80 (xs : List EdgeT) (h : fitsN 0 xs.length = true) : FXG Sg0 An0 500080 sgRE ((), (xs, ())) = some ((xs, ()), (xs, ())) := by
  refine fxg_of (fn := Tryz.f80) (by kernel_rfl) (by kernel_rfl) ((nfc80 _ _ _).trans ?_)
  cases xs with
  | nil => exact gc_T rfl (ga_of rfl rfl)
  | cons x r => exact gc_F rfl (gc_T h rfl)
theorem sg0_mem {f : FuncId} {g : Sig} (h : Sg0 f = some g) : (f, g) ∈ sgs0 := by
  unfold Sg0 at h
  obtain ⟨p, hp, rfl⟩ := Option.map_eq_some_iff.1 h
  have h1 := List.mem_of_find?_eq_some hp
  have h2 := List.find?_some hp
  have : p.1 = f := by simpa using h2
  subst this
  exact h1
theorem sg1_mem {f : FuncId} {g : Sig} (h : Sg1 f = some g) : (f, g) ∈ sgs1 := by
  unfold Sg1 at h
  obtain ⟨p, hp, rfl⟩ := Option.map_eq_some_iff.1 h
  have h1 := List.mem_of_find?_eq_some hp
  have h2 := List.find?_some hp
  have : p.1 = f := by simpa using h2
  subst this
  exact h1
noncomputable def callOk (l : List (Nat × Sig)) : Bool := l.all fun p => match Tryz.prog.funcs[p.1 % 1000]? with | some fn => !(fn.name == "runtime.NumGoroutine") && fn.body.isSome | none => false
theorem call_of {l : List (Nat × Sig)} (key : callOk l = true) {f : FuncId} {g : Sig} (hm : (f, g) ∈ l) : Callable Tryz.prog (f % 1000) := by
  have := List.all_eq_true.1 key _ hm
  simp only at this
  split at this
  · rename_i fn hf
    simp only [Bool.and_eq_true, Bool.not_eq_true'] at this
    exact ⟨fn, hf, this.1, this.2⟩
  · cases this
theorem con0 {f : FuncId} {g : Sig} {x : g.A} {y : g.B} (hs : Sg0 f = some g) (h : FXG Sg0 An0 f g x = some y) : Con Tryz.prog f g x y :=
  Fix_con (fun f g u hf hu => by
    have hm := sg0_mem hf
    simp only [sgs0, List.mem_cons, List.not_mem_nil, or_false, Prod.mk.injEq] at hm
    rcases hm with ⟨_, rfl⟩ | ⟨_, rfl⟩ <;> cases hu) eq_all (fun f g hf => call_of (by kernel_rfl) (sg0_mem hf)) mixed_all (fun f g u x y _ hu _ => by cases hu) hs h
theorem clone79 : XSound Tryz.prog 79 (cloneRX 48 k47) := cloneRX_sound rfl fun xs h => by
  have := con0 (by kernel_rfl) (fxc79 xs h)
  exact this
theorem clone80 : XSound Tryz.prog 80 (cloneRX 56 k55) := cloneRX_sound rfl fun xs h => by
  have := con0 (by kernel_rfl) (fxc80 xs h)
  exact this

/-! ### The diagram -/
theorem fxc81 (l : List Dart) (hl : l.length ≤ 50000000) : FXG Sg1 An1 81 sg81 ((l, ()), ()) = some ((l, ()), ()) := by
  refine fxg_of (fn := Tryz.f81) (by kernel_rfl) (by kernel_rfl) ((nfc81 _ _ _).trans ?_)
  cases l with
  | nil => exact gc_T rfl (ga_of rfl rfl)
  | cons x r => exact gc_F rfl (gc_T (decide_eq_true (show 0 + (x :: r).length ≤ 1073741824 by omega)) rfl)
theorem wrap_one {i n : Nat} (h : i < n) (hn : n ≤ 50000000) : IntKind.wrap .i64 ((i : Int) + 1) = ((i + 1 : Nat) : Int) := by
  unfold IntKind.wrap
  simp only [IntKind.bits, IntKind.signed]
  simp
  split <;> omega
theorem fxc60 (xs : List Vert) (ys : List EdgeT) (h : cloneOk xs ys = true) : FXG Sg1 An1 500060 sgCl ((), (xs, (ys, ()))) = some (((xs, (ys, ())), ()), (xs, (ys, ()))) := by
  unfold cloneOk at h
  simp only [Bool.and_eq_true, decide_eq_true_eq, List.all_eq_true] at h
  obtain ⟨hx, hy, hr⟩ := h
  refine fxg_of (fn := Tryz.f60) (by kernel_rfl) (by kernel_rfl) ((nfc60 _ _ _).trans ?_)
  refine gc_T (decide_eq_true (show 0 + xs.length ≤ 1073741824 by omega)) (gc_T (decide_eq_true (show 0 + ys.length ≤ 1073741824 by omega)) ?_)
  have loop : ∀ (n i : Nat) (out : List Vert), i + n = xs.length → out = xs → LXG Sg1 An1 500060 sgCl Tryz.f60 shC_0 (seg Tryz.prog 60 0) ((((xs.length : Nat) : Int), ((i : Int), ())), (((([] : List Vert), (([] : List EdgeT), ())), ((out, (ys, ())), ())), (xs, (ys, ())))) = some (((xs, (ys, ())), ()), (xs, (ys, ()))) := by
    intro n
    induction n with
    | zero =>
      intro i out hi ho
      subst ho
      refine lxg_of (j := 0) (by kernel_rfl) ((nlc60_0 _ _ _).trans ?_)
      exact gc_F (decide_eq_false (show ¬ ((i : Int) < ((out.length : Nat) : Int)) by omega)) rfl
    | succ n ih =>
      intro i out hi ho
      have hlt : i < xs.length := by omega
      have hx1 : out[i]? = some xs[i] := by rw [ho]; exact List.getElem?_eq_getElem hlt
      have hol : out.length = xs.length := by rw [ho]
      have c1 : (decide ((0 : Int) ≤ (i : Int)) && decide ((i : Int) < ((out.length : Nat) : Int))) = true := by
        rw [decide_eq_true (show (0 : Int) ≤ (i : Int) by omega), decide_eq_true (show (i : Int) < ((out.length : Nat) : Int) by omega)]; rfl
      refine lxg_of (j := 0) (by kernel_rfl) ((nlc60_0 _ _ _).trans ?_)
      refine gc_T (decide_eq_true (show ((i : Int) < ((xs.length : Nat) : Int)) by omega)) (gc_T c1 (gb_of hx1 ?_))
      refine gb_of (fxc81 xs[i].2.1 (hr _ (List.getElem_mem hlt))) ?_
      refine gc_T c1 (gb_of hx1 ?_)
      have hs : out.set i (xs[i].1, (xs[i].2.1, xs[i].2.2)) = xs := by
        subst ho; exact List.set_getElem_self hlt
      have := ih (i + 1) (out.set i (xs[i].1, (xs[i].2.1, xs[i].2.2))) (by omega) hs
      rw [← wrap_one hlt hx] at this
      exact this
  exact loop xs.length 0 xs (by omega) rfl
theorem con1 {f : FuncId} {g : Sig} {x : g.A} {y : g.B} (hs : Sg1 f = some g) (h : FXG Sg1 An1 f g x = some y) : Con Tryz.prog f g x y :=
  Fix_con (fun f g u hf hu => by
    have hm := sg1_mem hf
    simp only [sgs1, List.mem_cons, List.not_mem_nil, or_false, Prod.mk.injEq] at hm
    rcases hm with ⟨_, rfl⟩ | ⟨_, rfl⟩ | ⟨rfl, rfl⟩ | ⟨rfl, rfl⟩
    · cases hu
    · cases hu
    · cases hu; intro Z ψ h w B0 O N hh id e vs us; exact clone79
    · cases hu; intro Z ψ h w B0 O N hh id e vs us; exact clone80) eq_all (fun f g hf => call_of (by kernel_rfl) (sg1_mem hf)) mixed_all (fun f g u x y _ hu _ => by cases hu) hs h
theorem clone_all : XSound Tryz.prog 60 cloneX := cloneX_sound fun xs ys h => by
  have := con1 (by kernel_rfl) (fxc60 xs ys h)
  exact this
end Go.Vs

set_option linter.unusedVariables false
set_option linter.unusedSimpArgs false
namespace Go.Vs
open Go.Proofs
theorem x_all : ∀ f g u, Sg f = some g → g.x = some u → XSound Tryz.prog (f % 1000) u := fun f g u h hu => by
  have hm := sg_mem h
  have key : (sgs.all fun p => p.2.x.isNone || (p.1 == 108 || (p.1 == 130 || (p.1 == 156 || (p.1 == 109 || (p.1 == 120 || (p.1 == 158 || p.1 == 500060))))))) = true := by kernel_rfl
  have := List.all_eq_true.1 key _ hm
  simp only [hu, Option.isNone_some, Bool.false_or, Bool.or_eq_true, beq_iff_eq] at this
  rcases this with rfl | rfl | rfl | rfl | rfl | rfl | rfl
  · have e : Sg 108 = some sg108 := by kernel_rfl
    rw [e] at h; cases h; cases hu; intro Z ψ h w B0 O N hh id e vs us; exact insX_sound (k := k47) ins108
  · have e : Sg 130 = some sg130 := by kernel_rfl
    rw [e] at h; cases h; cases hu; intro Z ψ h w B0 O N hh id e vs us; exact insX_sound (k := k55) ins130
  · have e : Sg 156 = some sg156 := by kernel_rfl
    rw [e] at h; cases h; cases hu; intro Z ψ h w B0 O N hh id e vs us; exact insX_sound (k := k102) ins156
  · have e : Sg 109 = some sg109 := by kernel_rfl
    rw [e] at h; cases h; cases hu; intro Z ψ h w B0 O N hh id e vs us; exact delX_sound (k := k47) del109
  · have e : Sg 120 = some sg120 := by kernel_rfl
    rw [e] at h; cases h; cases hu; intro Z ψ h w B0 O N hh id e vs us; exact delX_sound (k := k55) del120
  · have e : Sg 158 = some sg158 := by kernel_rfl
    rw [e] at h; cases h; cases hu; intro Z ψ h w B0 O N hh id e vs us; exact growX_sound (k := k31) grow158
  · have e : Sg 500060 = some sg500060 := by kernel_rfl
    rw [e] at h; cases h; cases hu; intro Z ψ h w B0 O N hh id e vs us; exact clone_all

end Go.Vs
