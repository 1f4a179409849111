/- EditLeaves holds where what it reads is of bulk at most 1048576: it answers true, and the input reads as it did. -/
import Derived.Test.YtpldhjjpeldkaaaGreatTop
import Derived.Test.YtpldhjjpeldkaaaGreatLawLeaves

set_option linter.unusedVariables false
namespace Go.Proofs.YtpldhjjpeldkaaaGreat.editLeaves
open Go.Vs Go.ChangeShapes Go.WideShapes Go.ChangeAt Go.RowKit
set_option linter.unusedVariables false

set_option maxRecDepth 100000 in
theorem contract (H : Type) (ec : TypeId × Value → H) (W : World) (base : Nat) (args : Array Value) (ds gs : List (DataW H)) (before : List MemPlace)
    (hval : ∀ (j : Nat) t v, Tryz.f8.params[j]? = some t → args[j]? = some v → Value.okWide Tryz.prog W .any base t v)
    (hW : DataW.Whole ec Tryz.prog Tryz.f8.params.toList Rows.editLeavesSpec.vars false W args.toList ds gs before) (hk : Rows.uptoSmall H (ds ++ gs) = true) :
    Calls Tryz.prog 8 args W fun e W' => ∃ v, e = .returned v ∧ Rows.editLeavesSpec.post ec Tryz.prog Tryz.f8 false true false false W args v W' := by
  have hW' := hW
  obtain ⟨p, q, hA0, hV, rfl, hfz, hnd⟩ := hW
  have hA : DataW.TrodAll ec Tryz.prog W 0 (fun _ => true) true Tryz.f8.params.toList args.toList ds p := hA0
  rw [Tryz.params8] at hA hval
  obtain ⟨v0, v1, d0, d1, p0, p1, rfl, rfl, rfl, h0, h1⟩ := trodAll_two hA
  obtain ⟨rfl, rfl⟩ := trodVars_none hV
  obtain ⟨x0, r0, w0, b0⟩ := arg_open (d := 12) (k := .sl k75) (by kernel_rfl) (hval 0 _ v0 rfl rfl) h0
  obtain ⟨x1, r1, w1, b1⟩ := arg_open (d := 12) (k := k29) (by kernel_rfl) (hval 1 _ v1 rfl rfl) h1
  have hb : bulkK (.sl k75) x0 + bulkK (k29) x1 ≤ 1048576 := by
    have h := of_decide_eq_true hk
    simp only [List.append_nil, Rows.uptoBulkAll] at h
    omega
  have hc := con_of (by kernel_rfl) (law8 x0 x1 w0 w1 hb)
  have hr : RepL (Old W) NoV NoHeap W (args0 sg8 (x0, x1, ())) [v0, v1] := by
    show RepL (Old W) NoV NoHeap W [encV (.sl k75) x0, encV (k29) x1] [v0, v1]
    simp only [RepL]
    exact ⟨v0, [v1], rfl, r0, v1, [], rfl, r1, rfl⟩
  refine (law_calls (ks := [.val (.sl k75), .val (k29)]) (x := (x0, x1, ())) hc hr).mono fun e W' ⟨he, hs⟩ => ⟨_, he, ?_⟩
  exact law_post kids full (by decide +kernel) rfl (by kernel_rfl) rfl rfl hW' hs

set_option maxRecDepth 100000 in
theorem lifted (os : Os) (started : os.Started) (H : Type) (ec : TypeId × Value → H) (F : Stop.Interp) :
    ReturnsInHanded {} Tryz.checked os 8 .any ((Rows.OpenSpec.upto Rows.editLeavesSpec).pre6 ec Tryz.prog Tryz.f8 Rows.editLeavesUptoRow.domain false) (((Rows.OpenSpec.upto Rows.editLeavesSpec).at F).post ec Tryz.prog Tryz.f8 false true false false) := by
  refine returnsInHanded_of_cond (C := Tryz.checked) (s := Rows.OpenSpec.upto Rows.editLeavesSpec) (k := Rows.uptoSmall) rfl own started (by kernel_rfl) Tryz.func8
    (OpenSpec.witness (enc := ec) (C := Tryz.checked) (s := Rows.OpenSpec.upto Rows.editLeavesSpec) (k := Rows.uptoSmall) rfl false ⟨#[], #[.slice none 0 0, .agg #[.int .i64 0, .int .i64 0]], []⟩ 8 (by kernel_rfl) (by kernel_rfl) (by kernel_rfl)
      (x := ([.nil, .agg [.lit (.int .i64 0), .lit (.int .i64 0)]], [], [])) (by kernel_rfl) rfl (by kernel_rfl)) ?_
  intro W base args ds gs before hval hW _ hk _
  exact contract H ec W base args ds gs before hval hW hk

theorem over : Rows.editLeavesUptoRow.holds Tryz.pinned (Rows.OpenSpec.upto Rows.editLeavesSpec) :=
  OpenClaim.holds_of_cond 8 Tryz.f8 rfl rfl rfl rfl rfl rfl rfl ⟨rfl, rfl, rfl, rfl, rfl⟩ rfl rfl rfl rfl rfl (by kernel_rfl) Tryz.func8 (by kernel_rfl)
    (of_decide_eq_true (by kernel_rfl)) (by unfold Func.isWrapper; first | (rw [if_pos (by decide +kernel)]; kernel_rfl) | (rw [if_neg (by decide +kernel)]; exact ⟨rfl, rfl⟩))
    (fun os started H enc _ F => lifted os started H enc F)

theorem proved : Rows.EditLeavesUptoSaid :=
  over
end Go.Proofs.YtpldhjjpeldkaaaGreat.editLeaves
