/- EditVertices holds where what it reads is of bulk at most 1048576: it answers true, and the input reads as it did. -/
import Derived.Test.YtpldhjjpeldkaaaGreatSpecials
import Derived.Test.YtpldhjjpeldkaaaGreatTop
import Derived.Test.YtpldhjjpeldkaaaGreatLaw

set_option linter.unusedVariables false
namespace Go.Vs
open Go.Proofs
abbrev NoG : (f : FuncId) → (g : Sig) → Option (g.A → Option g.B) := fun _ _ => none

theorem con_of {f : FuncId} {g : Sig} {x : g.A} {y : g.B} (hs : Sg f = some g) (h : FX NoG f g x = some y) : Con Tryz.prog f g x y :=
  Fix_con x_all eq_all callable_all mixed_all (fun f g u x y _ hu _ => by cases hu) hs h

theorem mem_sum {α : Type} (f : α → Nat) : ∀ {l : List α} {x : α}, x ∈ l → f x ≤ (l.map f).sum
  | y :: r, x, h => by
    simp only [List.map_cons, List.sum_cons]
    rcases List.mem_cons.1 h with rfl | h
    · omega
    · have := mem_sum f h; omega
theorem len_sum {α : Type} (f : α → Nat) (hf : ∀ x, 1 ≤ f x) : ∀ (l : List α), l.length ≤ (l.map f).sum
  | [] => by simp
  | y :: r => by have := len_sum f hf r; have := hf y; simp only [List.map_cons, List.sum_cons, List.length_cons]; omega
theorem text_bulk (o : OpT) : o.2.2.2.2.2.2.2.1.size ≤ bulkK k35 o := by
  show _ ≤ 1 + ((1 + 1) + ((1 + 1) + ((1 + 1) + (((1 + 1) + ((1 + 1) + 1)) + (((1 + 1) + ((1 + 1) + 1)) + (1 + ((o.2.2.2.2.2.2.2.1.size + 1) + 1)))))))
  omega
theorem edits_small {l : List (List OpT)} {m : Nat} (hb : bulkK (.sl k75) l ≤ m) : l.length ≤ m ∧ ∀ e ∈ l, ∀ o ∈ e, o.2.2.2.2.2.2.2.1.size ≤ m := by
  have h1 : bulkK (.sl k75) l = (l.map fun e => (e.map (bulkK k35)).sum + 1).sum + 1 := rfl
  rw [h1] at hb
  refine ⟨?_, fun e he o ho => ?_⟩
  · have := len_sum (fun e : List OpT => (e.map (bulkK k35)).sum + 1) (fun _ => by omega) l
    omega
  · have h2 := mem_sum (fun e : List OpT => (e.map (bulkK k35)).sum + 1) he
    have h3 := mem_sum (bulkK k35) ho
    have h4 := text_bulk o
    omega

theorem law4 (l : List (List OpT)) (x : ID) (hb : bulkK (.sl k75) l + bulkK k29 x ≤ 1048576) : FX NoG 4 sg4 ((l, x, ()), ()) = some ((true, ()), ()) := by
  obtain ⟨h1, h2⟩ := edits_small (l := l) (m := 1048576) (by omega)
  exact pure4 (fun _ _ => rfl) l x (by omega) (fun e he o ho => Nat.le_trans (h2 e he o ho) (by omega))
end Go.Vs
namespace Go.Proofs.YtpldhjjpeldkaaaGreat.editVertices
open Go.Vs Go.ChangeShapes Go.WideShapes Go.ChangeAt Go.RowKit
set_option linter.unusedVariables false

theorem own : ownKnob Tryz.prog.godebug = none := by kernel_rfl
theorem kids : Kids Tryz.prog (· < Tryz.prog.types.size) := kids_rows (by kernel_rfl) (by kernel_rfl)
theorem full : ∀ t e, t < Tryz.prog.types.size → Tryz.prog.underlying t = some (.slice e) → 0 < Tryz.prog.cellsOf e := slices_full_of Tryz.prog (by kernel_rfl)

set_option maxRecDepth 100000 in
theorem contract (H : Type) (ec : TypeId × Value → H) (W : World) (base : Nat) (args : Array Value) (ds gs : List (DataW H)) (before : List MemPlace)
    (hval : ∀ (j : Nat) t v, Tryz.f4.params[j]? = some t → args[j]? = some v → Value.okWide Tryz.prog W .any base t v)
    (hW : DataW.Whole ec Tryz.prog Tryz.f4.params.toList Rows.editVerticesSpec.vars false W args.toList ds gs before) (hk : Rows.uptoSmall H (ds ++ gs) = true) :
    Calls Tryz.prog 4 args W fun e W' => ∃ v, e = .returned v ∧ Rows.editVerticesSpec.post ec Tryz.prog Tryz.f4 false true false false W args v W' := by
  have hW' := hW
  obtain ⟨p, q, hA0, hV, rfl, hfz, hnd⟩ := hW
  have hA : DataW.TrodAll ec Tryz.prog W 0 (fun _ => true) true Tryz.f4.params.toList args.toList ds p := hA0
  rw [Tryz.params4] at hA hval
  obtain ⟨v0, v1, d0, d1, p0, p1, rfl, rfl, rfl, h0, h1⟩ := trodAll_two hA
  obtain ⟨rfl, rfl⟩ := trodVars_none hV
  obtain ⟨l, r0, w0, b0⟩ := arg_open (d := 12) (k := .sl k75) (by kernel_rfl) (hval 0 _ v0 rfl rfl) h0
  obtain ⟨x, r1, w1, b1⟩ := arg_open (d := 12) (k := k29) (by kernel_rfl) (hval 1 _ v1 rfl rfl) h1
  have hb : bulkK (.sl k75) l + bulkK k29 x ≤ 1048576 := by
    have h := of_decide_eq_true hk
    simp only [List.append_nil, Rows.uptoBulkAll] at h
    omega
  have hc := con_of (by kernel_rfl) (law4 l x hb)
  have hr : RepL (Old W) NoV NoHeap W (args0 sg4 (l, x, ())) [v0, v1] := by
    show RepL (Old W) NoV NoHeap W [encV (.sl k75) l, encV k29 x] [v0, v1]
    simp only [RepL]
    exact ⟨v0, [v1], rfl, r0, v1, [], rfl, r1, rfl⟩
  refine (law_calls (ks := [.val (.sl k75), .val k29]) (x := (l, x, ())) hc hr).mono fun e W' ⟨he, hs⟩ => ⟨_, he, ?_⟩
  exact law_post kids full (by decide +kernel) rfl (by kernel_rfl) rfl rfl hW' hs

set_option maxRecDepth 100000 in
theorem lifted (os : Os) (started : os.Started) (H : Type) (ec : TypeId × Value → H) (F : Stop.Interp) :
    ReturnsInHanded {} Tryz.checked os 4 .any ((Rows.OpenSpec.upto Rows.editVerticesSpec).pre6 ec Tryz.prog Tryz.f4 Rows.editVerticesUptoRow.domain false) (((Rows.OpenSpec.upto Rows.editVerticesSpec).at F).post ec Tryz.prog Tryz.f4 false true false false) := by
  refine returnsInHanded_of_cond (C := Tryz.checked) (s := Rows.OpenSpec.upto Rows.editVerticesSpec) (k := Rows.uptoSmall) rfl own started (by kernel_rfl) Tryz.func4
    (OpenSpec.witness (enc := ec) (C := Tryz.checked) (s := Rows.OpenSpec.upto Rows.editVerticesSpec) (k := Rows.uptoSmall) rfl false ⟨#[], #[.slice none 0 0, .agg #[.int .i64 0, .int .i64 0]], []⟩ 8 (by kernel_rfl) (by kernel_rfl) (by kernel_rfl)
      (x := ([.nil, .agg [.lit (.int .i64 0), .lit (.int .i64 0)]], [], [])) (by kernel_rfl) rfl (by kernel_rfl)) ?_
  intro W base args ds gs before hval hW _ hk _
  exact contract H ec W base args ds gs before hval hW hk

theorem over : Rows.editVerticesUptoRow.holds Tryz.pinned (Rows.OpenSpec.upto Rows.editVerticesSpec) :=
  OpenClaim.holds_of_cond 4 Tryz.f4 rfl rfl rfl rfl rfl rfl rfl ⟨rfl, rfl, rfl, rfl, rfl⟩ rfl rfl rfl rfl rfl (by kernel_rfl) Tryz.func4 (by kernel_rfl)
    (of_decide_eq_true (by kernel_rfl)) (by unfold Func.isWrapper; first | (rw [if_pos (by decide +kernel)]; kernel_rfl) | (rw [if_neg (by decide +kernel)]; exact ⟨rfl, rfl⟩))
    (fun os started H enc _ F => lifted os started H enc F)

theorem proved : Rows.EditVerticesUptoSaid :=
  over
end Go.Proofs.YtpldhjjpeldkaaaGreat.editVertices
