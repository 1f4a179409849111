/- EditVertices answers true, of data. -/
import Derived.Test.YtpldhjjpeldkaaaGreatPlaces

set_option linter.unusedVariables false
set_option linter.unusedSimpArgs false
namespace Go.Vs
open Go.Proofs
variable {G : (f : FuncId) → (g : Sig) → Option (g.A → Option g.B)}

theorem pure4 (hG : ∀ f g, G f g = none) (l : List (List OpT)) (x : ID) (hl : l.length ≤ 1073741824) (ht : ∀ e ∈ l, ∀ o ∈ e, textOk o) : FX G 4 sg4 ((l, x, ()), ()) = some ((true, ()), ()) := by
  refine fx_of (fn := Tryz.f4) (hG _ _) (by kernel_rfl) (by kernel_rfl) ((nf4 _ _ _).trans ?_)
  refine bind_of (fx12 hG) ?_
  refine bind_of (fx17 hG l hl ht) ?_
  have hbs := Bs.reached l
  have hiv := Iv.reached l
  generalize reachedR l = s at *
  have hd := hbs.d; have hg := hbs.g
  have hsm := hd.sm (by omega)
  have hlen := hiv.n
  refine bind_of (fx18 (hG _ _) s.1 x (by omega)) ?_
  refine bind_of (fx19 (hG _ _) x) ?_
  refine bind_of (fx14_1 hG s x hsm (by omega) hiv.s) ?_
  cases hm : mayI x
  case false =>
    refine cond_T rfl (cond_T rfl ?_)
    have e : badId x = 1 := by unfold badId; rw [hm]; rfl
    rw [e]; rfl
  refine cond_F rfl ?_
  have e : badId x = 0 := by unfold badId; rw [hm]; rfl
  rw [e, if_neg (by simp)]
  rw [show (orV zV (vertex s.1 x)).2.1 = (vertex s.1 x).isSome from orV_snd _ _]
  cases hf : (vertex s.1 x).isSome
  case true =>
    have e1 : newVP (workOf s) (x, ([], (e0, 0))) = (12, workOf s) := if_pos hf
    refine cond_T rfl (cond_T rfl ?_)
    rw [e1]; rfl
  refine cond_F rfl ?_
  have hnf : findV s.1.1 x = none := by simpa [vertex] using hf
  by_cases hn : 24 ≤ s.1.1.length
  · have e1 : newVP (workOf s) (x, ([], (e0, 0))) = (3, workOf s) := by
      exact (if_neg (by rw [show findV (workOf s).1 ((x, ([], (e0, 0))) : Vert).1 = none from hnf]; simp)).trans (if_pos hn)
    refine cond_T (decide_eq_true (show ((s.1.1.length : Nat) : Int) ≥ 24 by omega)) (cond_T rfl ?_)
    rw [e1]; rfl
  refine cond_F (decide_eq_false (show ¬ ((s.1.1.length : Nat) : Int) ≥ 24 by omega)) ?_
  obtain ⟨v, hv⟩ : ∃ v : Vert, v = (x, ([], (e0, 0))) := ⟨_, rfl⟩
  have hvx : v.1 = x := by rw [hv]
  have e1 : newVP (workOf s) (x, ([], (e0, 0))) = (0, (addV v s.1.1, (s.1.2, (s.2, ())))) := by
    rw [hv]; exact (if_neg (by rw [show findV (workOf s).1 ((x, ([], (e0, 0))) : Vert).1 = none from hnf]; simp)).trans (if_neg hn)
  obtain ⟨t, ht'⟩ : ∃ t : StateT, t = ((addV v s.1.1, s.1.2), s.2) := ⟨_, rfl⟩
  have e2 : doneP (newVP (workOf s) (x, ([], (e0, 0)))).1 (newVP (workOf s) (x, ([], (e0, 0)))).2 = (t, (0, ())) := by
    rw [e1, ht']; unfold doneP; rw [if_neg (by simp)]; rfl
  rw [e2]
  have hnf' : findV s.1.1 v.1 = none := by rw [hvx]; exact hnf
  have ft : findV t.1.1 x = some v := by rw [ht', ← hvx]; exact findV_addV v hnf'
  have tl : t.1.1.length = s.1.1.length + 1 := by rw [ht']; exact addV_length v s.1.1
  have tsort : SortV t.1.1 := by rw [ht']; exact sort_addV v hiv.s hnf'
  have tsm : Sm t.1 := by
    rw [ht']
    exact (hd.addV v (by rw [hv]; simp)).sm (by omega)
  have tg : t.2 = s.2 := by rw [ht']
  have te : t.1.2 = s.1.2 := by rw [ht']
  have td : dropV t.1.1 x = s.1.1 := by rw [ht', ← hvx]; exact dropV_addV v hnf'
  refine bind_of (fx18 (hG _ _) t.1 x (by rw [tl]; omega)) ?_
  rw [show vertex t.1 x = some v from ft]
  refine bind_of (fx14_2 hG t x tsm (by rw [tg]; omega) tsort) ?_
  have e3 : remVP (workOf t) x = (0, workOf s) := by
    unfold remVP
    rw [show findV (workOf t).1 x = some v from ft]
    show (if 0 < v.2.1.length then (14, workOf t) else (0, (dropV t.1.1 x, (t.1.2, (t.2, ())))) : Int × WorkT) = _
    rw [if_neg (by rw [hv]; simp), td, te, tg]; rfl
  have e4 : doneP (remVP (workOf t) x).1 (remVP (workOf t) x).2 = (s, (0, ())) := by rw [e3]; rfl
  rw [e, if_neg (by simp), e4]
  refine bind_of (fx16 hG s s hsm (by omega)) ?_
  refine bind_of (fx14_2 hG s x hsm (by omega) hiv.s) ?_
  have e5 : remVP (workOf s) x = (13, workOf s) := by
    unfold remVP
    rw [show findV (workOf s).1 x = none from hnf]
  rw [e, if_neg (by simp), e5]
  refine cond_T rfl (cond_T rfl (cond_T rfl ?_))
  refine cond_T (by rw [hv]; rfl) ?_
  refine cond_T (by rw [hv]; rfl) ?_
  refine cond_T (by rw [hv]; rfl) ?_
  refine cond_T ?_ (cond_T rfl (cond_T (decide_eq_true rfl) rfl))
  have hw : IntKind.wrap .i64 (((s.1.1.length : Nat) : Int) + 1) = ((s.1.1.length + 1 : Nat) : Int) := by rw [wrap_small (by omega) (by omega)]; rfl
  show (((t.1.1.length : Nat) : Int) == IntKind.wrap .i64 (((s.1.1.length : Nat) : Int) + 1)) = true
  rw [hw, tl]; simp
end Go.Vs
