/- EditSets answers true, of data. -/
import Derived.Test.YtpldhjjpeldkaaaGreatFormed
import Derived.Test.YtpldhjjpeldkaaaGreatPlaces

set_option linter.unusedVariables false
set_option linter.unusedSimpArgs false
namespace Go.Vs
open Go.Proofs
variable {G : (f : FuncId) → (g : Sig) → Option (g.A → Option g.B)}

theorem any_findV (l : List Vert) (x : ID) : l.any (fun w => decide (w.1 = x)) = (findV l x).isSome := by
  rw [Bool.eq_iff_iff, List.any_eq_true]; unfold findV; rw [List.find?_isSome]
theorem any_findE (l : List EdgeT) (x : ID) : l.any (fun w => decide (w.1 = x)) = (findE l x).isSome := by
  rw [Bool.eq_iff_iff, List.any_eq_true]; unfold findE; rw [List.find?_isSome]
theorem setP_setR (s : StateT) (o : OpT) : doneP (setP (workOf s) o).1 (setP (workOf s) o).2 = setR s o := by
  unfold setP setR hasV hasE
  rw [any_findV, any_findE]
  by_cases ho : oOfE o = true
  · have hv : s.1.1.map (setV o) = s.1.1 := by
      conv => rhs; rw [← List.map_id s.1.1]
      exact List.map_congr_left fun u hu => by unfold setV; rw [if_neg (by rw [ho]; simp)]; rfl
    rw [if_pos ho, ho, hv]
    show doneP (if (findE s.1.2 (oId o)).isSome = true then _ else _ : Int × WorkT).1 (if (findE s.1.2 (oId o)).isSome = true then _ else _ : Int × WorkT).2 = _
    cases (findE s.1.2 (oId o)).isSome <;> rfl
  · have ho' : oOfE o = false := by simpa using ho
    have he : s.1.2.map (setE o) = s.1.2 := by
      conv => rhs; rw [← List.map_id s.1.2]
      exact List.map_congr_left fun u hu => by unfold setE; rw [if_neg (by rw [ho']; simp)]; rfl
    rw [if_neg ho, ho', he]
    show doneP (if (findV s.1.1 (oId o)).isSome = true then _ else _ : Int × WorkT).1 (if (findV s.1.1 (oId o)).isSome = true then _ else _ : Int × WorkT).2 = _
    cases (findV s.1.1 (oId o)).isSome <;> rfl
theorem fx66_set (hG : ∀ f g, G f g = none) (w : WorkT) (o : OpT) (hk : 7 ≤ o.1) (hv : SortV w.1) (he : SortE w.2.1) (hlv : w.1.length ≤ 50000000) (hle : w.2.1.length ≤ 50000000) :
    FX G 66 sg66 ((o, ()), (w, ())) = some (((setP w o).1, ()), ((setP w o).2, ())) := by
  refine fx_of (fn := Tryz.f66) (hG _ _) (by kernel_rfl) (by kernel_rfl) ((nf66 _ _ _).trans ?_)
  have kn : ∀ k : Int, k < 7 → (o.1 == k) = false := fun k hk2 => kne (by omega)
  refine cond_F (kn 1 (by omega)) (cond_F (kn 2 (by omega)) (cond_F (kn 3 (by omega)) (cond_F (kn 4 (by omega)) (cond_F (kn 5 (by omega)) (cond_F (kn 6 (by omega)) ?_)))))
  exact bind_of (fx96 hG w o hv he hlv hle) rfl
theorem fx14_set (hG : ∀ f g, G f g = none) (s : StateT) (o : OpT) (hk : 7 ≤ o.1) (hf : Fit o) (hv : SortV s.1.1) (he : SortE s.1.2) (hs : Sm s.1) (hg : s.2.length ≤ 50000000) (hm : mayOp o = 0) :
    FX G 14 sg14 ((s, o, ()), ()) = some (setR s o, ()) := by
  have h1 := hs.v; have h2 := hs.e
  refine (fx14_of hG s o (fx43 hG o hf) hs hg (fun _ => fx66_set hG (workOf s) o hk hv he (by show s.1.1.length ≤ _; omega) (by show s.1.2.length ≤ _; omega))).trans ?_
  rw [hm, if_neg (by simp), setP_setR]

/-! ### Set, and set back -/
def opL (x : ID) (e : Bool) (t : ByteArray) : OpT := (7, (x, (zI, (zI, (zC, (zC, (e, (t, 0))))))))
def opA (x : ID) (e : Bool) (n : Int) : OpT := (8, (x, (zI, (zI, (zC, (zC, (e, (e0, n))))))))
theorem mayOp_L {x : ID} {e : Bool} {t : ByteArray} (hx : mayI x = true) (ht : mayL t = true) : mayOp (opL x e t) = 0 := by
  unfold mayOp
  rw [if_neg (by simp [opL]), if_neg (by simp [opL]), if_neg (by simp [opL, hx]), if_neg, if_neg (by simp [opL]), if_neg (by simp [opL]), if_neg (by simp [opL]), if_neg (by simp [opL]), if_pos (show (opL x e t).1 = 7 from rfl)]
  · exact if_pos ht
  intro h
  have : eqOp (restR (opL x e t)) zOp = true := (eqOp_iff _ _).2 rfl
  rw [this] at h; cases h
theorem mayOp_A {x : ID} {e : Bool} {n : Int} (hx : mayI x = true) (ht : mayA n = true) : mayOp (opA x e n) = 0 := by
  unfold mayOp
  rw [if_neg (by simp [opA]), if_neg (by simp [opA]), if_neg (by simp [opA, hx]), if_neg, if_neg (by simp [opA]), if_neg (by simp [opA]), if_neg (by simp [opA]), if_pos (show (opA x e n).1 = 8 from rfl)]
  · exact if_pos ht
  intro h
  have : eqOp (restR (opA x e n)) zOp = true := (eqOp_iff _ _).2 rfl
  rw [this] at h; cases h
theorem mayL_size {t : ByteArray} (h : mayL t = true) : t.size ≤ 16 := by
  unfold mayL at h
  simp only [Bool.and_eq_true, decide_eq_true_eq] at h
  exact h.2
theorem mayA_in {n : Int} (h : mayA n = true) : inR n := by
  unfold mayA at h
  simp only [decide_eq_true_eq] at h
  unfold inR; omega
theorem inR0 : inR 0 := by unfold inR; omega
theorem fit_L {x : ID} {e : Bool} {t : ByteArray} (ht : mayL t = true) : Fit (opL x e t) := ⟨inR0, inR0, inR0, by have := mayL_size ht; show t.size ≤ _; omega⟩
theorem fit_A {x : ID} {e : Bool} {n : Int} (ht : mayA n = true) : Fit (opA x e n) := ⟨inR0, inR0, mayA_in ht, by show e0.size ≤ _; simp [e0, ByteArray.size]⟩
theorem uniqV {l : List Vert} (hs : SortV l) {v w : Vert} (hv : v ∈ l) (hw : w ∈ l) (h : w.1 = v.1) : w = v := by
  have h1 := findV_of hs hv
  have h2 := findV_of hs hw
  rw [h, h1] at h2
  exact (Option.some.inj h2).symm
theorem findE_of {l : List EdgeT} {v : EdgeT} (hs : SortE l) (h : v ∈ l) : findE l v.1 = some v := by
  have hf : (findE l v.1).isSome = true := by
    unfold findE; rw [List.find?_isSome]; exact ⟨v, h, by simp⟩
  obtain ⟨u, hu⟩ := Option.isSome_iff_exists.1 hf
  have h1 := get_cntE hs hu
  obtain ⟨k, hk, he⟩ := List.getElem_of_mem h
  have h2 : l[k]? = some v := by rw [List.getElem?_eq_getElem hk, he]
  rw [cntE_only hs h2 rfl, h1] at h2
  rw [hu]; exact h2
theorem uniqE {l : List EdgeT} (hs : SortE l) {v w : EdgeT} (hv : v ∈ l) (hw : w ∈ l) (h : w.1 = v.1) : w = v := by
  have h1 := findE_of hs hv
  have h2 := findE_of hs hw
  rw [h, h1] at h2
  exact (Option.some.inj h2).symm
theorem map_back {α : Type} {l : List α} {f g : α → α} (h : ∀ w ∈ l, f (g w) = w) : (l.map g).map f = l := by
  rw [List.map_map]
  conv => rhs; rw [← List.map_id l]
  exact List.map_congr_left fun w hw => h w hw
theorem setV_off {o : OpT} (h : oOfE o = true) (w : Vert) : setV o w = w := by unfold setV; rw [if_neg (by rw [h]; simp)]
theorem setE_off {o : OpT} (h : oOfE o = false) (w : EdgeT) : setE o w = w := by unfold setE; rw [if_neg (by rw [h]; simp)]
theorem setR_gone {s : StateT} {o : OpT} (h : (if oOfE o = true then (findE s.1.2 (oId o)).isSome else (findV s.1.1 (oId o)).isSome) = false) : setR s o = (zS, (13, ())) := by
  unfold setR hasV hasE
  rw [any_findV, any_findE]
  cases ho : oOfE o <;> rw [ho] at h <;> simp at h <;> rw [if_neg] <;> simp [h]
theorem setR_there {s : StateT} {o : OpT} (h : (if oOfE o = true then (findE s.1.2 (oId o)).isSome else (findV s.1.1 (oId o)).isSome) = true) : setR s o = (((s.1.1.map (setV o), s.1.2.map (setE o)), s.2), (0, ())) := by
  unfold setR hasV hasE
  rw [any_findV, any_findE]
  cases ho : oOfE o <;> rw [ho] at h <;> simp at h <;> rw [if_pos] <;> simp [h]
theorem setE_at {o : OpT} {w : EdgeT} (h : oOfE o = true) (hx : w.1 = oId o) : setE o w = if o.1 = 7 then (w.1, (oText o, w.2.2)) else (w.1, (w.2.1, oN o)) := if_pos ⟨h, hx⟩
theorem setE_ne {o : OpT} {w : EdgeT} (hx : w.1 ≠ oId o) : setE o w = w := if_neg fun k => hx k.2
theorem setV_at {o : OpT} {w : Vert} (h : oOfE o = false) (hx : w.1 = oId o) : setV o w = if o.1 = 7 then (w.1, (w.2.1, (oText o, w.2.2.2))) else (w.1, (w.2.1, (w.2.2.1, oN o))) := if_pos ⟨h, hx⟩
theorem setV_ne {o : OpT} {w : Vert} (hx : w.1 ≠ oId o) : setV o w = w := if_neg fun k => hx k.2
/-- What was set is set back: f undoes g at what has the name. -/
theorem set_back {s : StateT} (h : WfS s) {o p : OpT} (hi : oId o = oId p) (he : oOfE o = oOfE p) (hk : o.1 = p.1)
    (hV : ∀ v, findV s.1.1 (oId o) = some v → oOfE o = false → (o.1 = 7 → oText p = v.2.2.1) ∧ (o.1 ≠ 7 → oN p = v.2.2.2))
    (hE : ∀ v, findE s.1.2 (oId o) = some v → oOfE o = true → (o.1 = 7 → oText p = v.2.1) ∧ (o.1 ≠ 7 → oN p = v.2.2)) :
    (((s.1.1.map (setV o)).map (setV p), (s.1.2.map (setE o)).map (setE p)), s.2) = s := by
  rw [map_back (l := s.1.1), map_back (l := s.1.2)]
  · intro w hw
    cases ho : oOfE o with
    | false => rw [setE_off ho, setE_off (he ▸ ho)]
    | true =>
      have ho2 : oOfE p = true := by rw [← he]; exact ho
      by_cases hx : w.1 = oId o
      · have hfe : findE s.1.2 (oId o) = some w := by rw [← hx]; exact findE_of h.d.se hw
        obtain ⟨h1, h2⟩ := hE w hfe ho
        have hx2 : w.1 = oId p := hx.trans hi
        by_cases h7 : o.1 = 7
        · have h72 : p.1 = 7 := hk ▸ h7
          rw [setE_at ho hx, if_pos h7, setE_at (w := (w.1, (oText o, w.2.2))) ho2 hx2, if_pos h72, h1 h7]
        · have h72 : ¬ p.1 = 7 := hk ▸ h7
          rw [setE_at ho hx, if_neg h7, setE_at (w := (w.1, (w.2.1, oN o))) ho2 hx2, if_neg h72, h2 h7]
      · rw [setE_ne hx, setE_ne (fun k => hx (k.trans hi.symm))]
  · intro w hw
    cases ho : oOfE o with
    | true => rw [setV_off ho, setV_off (he ▸ ho)]
    | false =>
      have ho2 : oOfE p = false := by rw [← he]; exact ho
      by_cases hx : w.1 = oId o
      · have hfe : findV s.1.1 (oId o) = some w := by rw [← hx]; exact findV_of h.d.sv hw
        obtain ⟨h1, h2⟩ := hV w hfe ho
        have hx2 : w.1 = oId p := hx.trans hi
        by_cases h7 : o.1 = 7
        · have h72 : p.1 = 7 := hk ▸ h7
          rw [setV_at ho hx, if_pos h7, setV_at (w := (w.1, (w.2.1, (oText o, w.2.2.2)))) ho2 hx2, if_pos h72, h1 h7]
        · have h72 : ¬ p.1 = 7 := hk ▸ h7
          rw [setV_at ho hx, if_neg h7, setV_at (w := (w.1, (w.2.1, (w.2.2.1, oN o)))) ho2 hx2, if_neg h72, h2 h7]
      · rw [setV_ne hx, setV_ne (fun k => hx (k.trans hi.symm))]
/-- What is behind a label or an attribute that was set. -/
structure Lay (s t : StateT) : Prop where
  v : SortV t.1.1
  e : SortE t.1.2
  sm : Sm t.1
  g : t.2.length ≤ 50000000
theorem lay_of {n : Nat} {s : StateT} (h : WfS s) (hb : Bs n s) (hn : n ≤ 1000000) {o : OpT} (hm : mayOp o = 0) (hk : 7 ≤ o.1) {t : StateT} {e : Int} (ht : setR s o = (t, (e, ()))) : Lay s t := by
  have h1 := h.d.setR hm hk
  have h2 : t = (setR s o).1 := by rw [ht]
  have hb2 : Bs (n + 3) (oneR s o).1 := hb.one o
  have h3 : oneR s o = setR s o := by
    unfold oneR
    rw [if_neg (by simp [hm]), if_neg (by omega), if_neg (by omega), if_neg (by omega), if_neg (by omega), if_neg (by omega), if_neg (by omega)]
  rw [h3, ← h2] at hb2
  rw [← h2] at h1
  have hg := hb2.g
  exact ⟨h1.sv, h1.se, hb2.d.sm (by omega), by omega⟩
/-- The law's last lines. -/
theorem chain8 {R : Type} {a b c d e f g : Bool} {x y r : Option R} (h : (a && (b && (c && (d && (e && (f && g)))))) = true) (k : x = r) : cond a (cond b (cond c (cond d (cond e (cond f (cond g x y) y) y) y) y) y) y = r := by
  cases a <;> cases b <;> cases c <;> cases d <;> cases e <;> cases f <;> cases g <;> first | exact k | cases h
set_option maxRecDepth 4000 in
theorem pure7 (hG : ∀ f g, G f g = none) (l : List (List OpT)) (x : ID) (tx : ByteArray) (n : Int) (oe : Bool) (hl : l.length ≤ 1073741824) (ht : ∀ e ∈ l, ∀ o ∈ e, textOk o) (htx : tx.size ≤ 100000000) :
    FX G 7 sg7 ((l, x, (tx, (n, oe)), ()), ()) = some ((true, ()), ()) := by
  refine fx_of (fn := Tryz.f7) (hG _ _) (by kernel_rfl) (by kernel_rfl) ((nf7 _ _ _).trans ?_)
  refine bind_of (fx12 hG) ?_
  refine bind_of (fx17 hG l hl ht) ?_
  have hbs := Bs.reached l
  have hwf := WfS.reached l
  generalize reachedR l = s at *
  have hd := hbs.d; have hg := hbs.g
  have hsm := hd.sm (by omega)
  have hnv := hwf.d.nv; have hne := hwf.d.ne
  refine bind_of (fx19 (hG _ _) x) ?_
  cases hm : mayI x
  case false => exact cond_T rfl rfl
  refine cond_F rfl ?_
  refine bind_of (fx28 (hG _ _) tx htx) ?_
  cases hml : mayL tx
  case false => exact cond_T rfl rfl
  refine cond_F rfl ?_
  refine bind_of (fx29 (hG _ _) n) ?_
  cases hma : mayA n
  case false => exact cond_T rfl rfl
  refine cond_F rfl ?_
  have step : ∀ (t : StateT) (o : OpT), Lay s t → 7 ≤ o.1 → Fit o → mayOp o = 0 → FX G 14 sg14 ((t, o, ()), ()) = some (setR t o, ()) := fun t o hy hk hf h0 => fx14_set hG t o hk hf hy.v hy.e hy.sm hy.g h0
  have lay0 : Lay s s := ⟨hwf.d.sv, hwf.d.se, hsm, by omega⟩
  refine bind_of (step s (opL x oe tx) lay0 (by simp [opL]) (fit_L hml) (mayOp_L hm hml)) ?_
  refine bind_of (step s (opA x oe n) lay0 (by simp [opA]) (fit_A hma) (mayOp_A hm hma)) ?_
  refine bind_of (fx18 (hG _ _) s.1 x (by omega)) ?_
  refine bind_of (fx21 (hG _ _) s.1 x (by omega)) ?_
  have hV : (orV zV (vertex s.1 x)).2.1 = (findV s.1.1 x).isSome := orV_snd _ _
  have hE : (orV zE (edge s.1 x)).2.1 = (findE s.1.2 x).isSome := orV_snd _ _
  have e13 : (if oe = true then (findE s.1.2 x).isSome else (findV s.1.1 x).isSome) = false → setR s (opL x oe tx) = (zS, (13, ())) ∧ setR s (opA x oe n) = (zS, (13, ())) := fun h => ⟨setR_gone h, setR_gone h⟩
  cases oe with
  | false =>
    cases hfv : findV s.1.1 x with
    | none =>
      obtain ⟨ea, eb⟩ := e13 (by simp [hfv])
      rw [hfv] at hV
      refine cond_F hV ?_
      rw [ea, eb]
      cases hfe : (findE s.1.2 x).isSome
      · exact cond_F (hE.trans hfe) rfl
      · exact cond_T (hE.trans hfe) (cond_T rfl rfl)
    | some v =>
      rw [hfv] at hV
      have gv := hwf.d.gv v (findV_mem hfv)
      have ea : setR s (opL x false tx) = (((s.1.1.map (setV (opL x false tx)), s.1.2.map (setE (opL x false tx))), s.2), (0, ())) := setR_there (by show (findV s.1.1 x).isSome = true; rw [hfv]; rfl)
      have eb : setR s (opA x false n) = (((s.1.1.map (setV (opA x false n)), s.1.2.map (setE (opA x false n))), s.2), (0, ())) := setR_there (by show (findV s.1.1 x).isSome = true; rw [hfv]; rfl)
      have la := lay_of hwf hbs (by omega) (mayOp_L hm hml) (by simp [opL]) ea
      have lb := lay_of hwf hbs (by omega) (mayOp_A hm hma) (by simp [opA]) eb
      have va : findV (s.1.1.map (setV (opL x false tx))) x = some (setV (opL x false tx) v) := by rw [findV_map (setV_id _), hfv]; rfl
      have vb : findV (s.1.1.map (setV (opA x false n))) x = some (setV (opA x false n) v) := by rw [findV_map (setV_id _), hfv]; rfl
      have hvx := findV_id hfv
      have ec : setR ((s.1.1.map (setV (opL x false tx)), s.1.2.map (setE (opL x false tx))), s.2) (opL x false v.2.2.1) = (s, (0, ())) := by
        rw [setR_there (by show (findV (s.1.1.map (setV (opL x false tx))) x).isSome = true; rw [va]; rfl)]
        rw [set_back hwf (o := opL x false tx) (p := opL x false v.2.2.1) rfl rfl rfl (fun u hu _ => by rw [show findV s.1.1 x = some u from hu] at hfv; cases hfv; exact ⟨fun _ => rfl, fun k => absurd rfl k⟩) (fun u hu k => by cases k)]
      have ed : setR ((s.1.1.map (setV (opA x false n)), s.1.2.map (setE (opA x false n))), s.2) (opA x false v.2.2.2) = (s, (0, ())) := by
        rw [setR_there (by show (findV (s.1.1.map (setV (opA x false n))) x).isSome = true; rw [vb]; rfl)]
        rw [set_back hwf (o := opA x false n) (p := opA x false v.2.2.2) rfl rfl rfl (fun u hu _ => by rw [show findV s.1.1 x = some u from hu] at hfv; cases hfv; exact ⟨fun k => (by cases k), fun _ => rfl⟩) (fun u hu k => by cases k)]
      refine cond_T hV (cond_T rfl (cond_F rfl ?_))
      rw [ea, eb, show vertex s.1 x = some v from hfv]
      refine bind_of ((step ((s.1.1.map (setV (opL x false tx)), s.1.2.map (setE (opL x false tx))), s.2) (opL x false v.2.2.1) la (by simp [opL]) (fit_L gv.l) (mayOp_L hm gv.l)).trans (congrArg (fun r => some (r, ())) ec)) ?_
      refine bind_of ((step ((s.1.1.map (setV (opA x false n)), s.1.2.map (setE (opA x false n))), s.2) (opA x false v.2.2.2) lb (by simp [opA]) (fit_A gv.a) (mayOp_A hm gv.a)).trans (congrArg (fun r => some (r, ())) ed)) ?_
      refine bind_of (fx16 hG s s hsm (by omega)) ?_
      refine bind_of (fx16 hG s s hsm (by omega)) ?_
      refine bind_of (fx18 (hG _ _) (s.1.1.map (setV (opL x false tx)), s.1.2.map (setE (opL x false tx))) x (by simp; omega)) ?_
      refine bind_of (fx21 (hG _ _) (s.1.1.map (setV (opA x false n)), s.1.2.map (setE (opA x false n))) x (by simp; omega)) ?_
      rw [show vertex (s.1.1.map (setV (opL x false tx)), s.1.2.map (setE (opL x false tx))) x = some (setV (opL x false tx) v) from va]
      have hsv : setV (opL x false tx) v = (v.1, (v.2.1, (tx, v.2.2.2))) := by rw [setV_at (o := opL x false tx) rfl hvx]; rfl
      rw [hsv]
      refine cond_F rfl (cond_T (by show (tx == tx) = true; rw [beqS]; simp) (cond_T rfl ?_))
      refine chain8 (by rw [decide_eq_true (rfl : s = s)]; rfl) ?_
      exact cond_T (by show (v.2.2.2 == v.2.2.2) = true; simp) rfl
  | true =>
    cases hfe : findE s.1.2 x with
    | none =>
      obtain ⟨ea, eb⟩ := e13 (by simp [hfe])
      rw [hfe] at hE
      rw [ea, eb]
      cases hfv : (findV s.1.1 x).isSome
      · exact cond_F (hV.trans hfv) (cond_F hE rfl)
      · exact cond_T (hV.trans hfv) (cond_F rfl (cond_F hE rfl))
    | some v =>
      rw [hfe] at hE
      have ge := hwf.d.ge v (findE_mem hfe)
      have ea : setR s (opL x true tx) = (((s.1.1.map (setV (opL x true tx)), s.1.2.map (setE (opL x true tx))), s.2), (0, ())) := setR_there (by show (findE s.1.2 x).isSome = true; rw [hfe]; rfl)
      have eb : setR s (opA x true n) = (((s.1.1.map (setV (opA x true n)), s.1.2.map (setE (opA x true n))), s.2), (0, ())) := setR_there (by show (findE s.1.2 x).isSome = true; rw [hfe]; rfl)
      have la := lay_of hwf hbs (by omega) (mayOp_L hm hml) (by simp [opL]) ea
      have lb := lay_of hwf hbs (by omega) (mayOp_A hm hma) (by simp [opA]) eb
      have va : findE (s.1.2.map (setE (opL x true tx))) x = some (setE (opL x true tx) v) := by rw [findE_map (setE_id _), hfe]; rfl
      have vb : findE (s.1.2.map (setE (opA x true n))) x = some (setE (opA x true n) v) := by rw [findE_map (setE_id _), hfe]; rfl
      have hvx := findE_id hfe
      have ec : setR ((s.1.1.map (setV (opL x true tx)), s.1.2.map (setE (opL x true tx))), s.2) (opL x true v.2.1) = (s, (0, ())) := by
        rw [setR_there (by show (findE (s.1.2.map (setE (opL x true tx))) x).isSome = true; rw [va]; rfl)]
        rw [set_back hwf (o := opL x true tx) (p := opL x true v.2.1) rfl rfl rfl (fun u hu k => by cases k) (fun u hu _ => by rw [show findE s.1.2 x = some u from hu] at hfe; cases hfe; exact ⟨fun _ => rfl, fun k => absurd rfl k⟩)]
      have ed : setR ((s.1.1.map (setV (opA x true n)), s.1.2.map (setE (opA x true n))), s.2) (opA x true v.2.2) = (s, (0, ())) := by
        rw [setR_there (by show (findE (s.1.2.map (setE (opA x true n))) x).isSome = true; rw [vb]; rfl)]
        rw [set_back hwf (o := opA x true n) (p := opA x true v.2.2) rfl rfl rfl (fun u hu k => by cases k) (fun u hu _ => by rw [show findE s.1.2 x = some u from hu] at hfe; cases hfe; exact ⟨fun k => (by cases k), fun _ => rfl⟩)]
      have hsv : setE (opA x true n) v = (v.1, (v.2.1, n)) := by rw [setE_at (o := opA x true n) rfl hvx]; rfl
      cases hfv : (findV s.1.1 x).isSome
      · refine cond_F (hV.trans hfv) (cond_T hE (cond_F rfl (cond_T rfl ?_)))
        rw [ea, eb, show edge s.1 x = some v from hfe]
        refine bind_of ((step ((s.1.1.map (setV (opL x true tx)), s.1.2.map (setE (opL x true tx))), s.2) (opL x true v.2.1) la (by simp [opL]) (fit_L ge.l) (mayOp_L hm ge.l)).trans (congrArg (fun r => some (r, ())) ec)) ?_
        refine bind_of ((step ((s.1.1.map (setV (opA x true n)), s.1.2.map (setE (opA x true n))), s.2) (opA x true v.2.2) lb (by simp [opA]) (fit_A ge.a) (mayOp_A hm ge.a)).trans (congrArg (fun r => some (r, ())) ed)) ?_
        refine bind_of (fx16 hG s s hsm (by omega)) ?_
        refine bind_of (fx16 hG s s hsm (by omega)) ?_
        refine bind_of (fx18 (hG _ _) (s.1.1.map (setV (opL x true tx)), s.1.2.map (setE (opL x true tx))) x (by simp; omega)) ?_
        refine bind_of (fx21 (hG _ _) (s.1.1.map (setV (opA x true n)), s.1.2.map (setE (opA x true n))) x (by simp; omega)) ?_
        rw [show edge (s.1.1.map (setV (opA x true n)), s.1.2.map (setE (opA x true n))) x = some (setE (opA x true n) v) from vb, hsv]
        refine cond_T rfl (cond_F rfl (cond_T (by show (n == n) = true; simp) ?_))
        refine chain8 (by rw [decide_eq_true (rfl : s = s)]; rfl) ?_
        exact congrArg (fun b : Bool => some ((b, ()), ())) (show (v.2.1 == v.2.1) = true by rw [beqS]; simp)
      · refine cond_T (hV.trans hfv) (cond_F rfl (cond_T hE (cond_F rfl (cond_T rfl ?_))))
        rw [ea, eb, show edge s.1 x = some v from hfe]
        refine bind_of ((step ((s.1.1.map (setV (opL x true tx)), s.1.2.map (setE (opL x true tx))), s.2) (opL x true v.2.1) la (by simp [opL]) (fit_L ge.l) (mayOp_L hm ge.l)).trans (congrArg (fun r => some (r, ())) ec)) ?_
        refine bind_of ((step ((s.1.1.map (setV (opA x true n)), s.1.2.map (setE (opA x true n))), s.2) (opA x true v.2.2) lb (by simp [opA]) (fit_A ge.a) (mayOp_A hm ge.a)).trans (congrArg (fun r => some (r, ())) ed)) ?_
        refine bind_of (fx16 hG s s hsm (by omega)) ?_
        refine bind_of (fx16 hG s s hsm (by omega)) ?_
        refine bind_of (fx18 (hG _ _) (s.1.1.map (setV (opL x true tx)), s.1.2.map (setE (opL x true tx))) x (by simp; omega)) ?_
        refine bind_of (fx21 (hG _ _) (s.1.1.map (setV (opA x true n)), s.1.2.map (setE (opA x true n))) x (by simp; omega)) ?_
        rw [show edge (s.1.1.map (setV (opA x true n)), s.1.2.map (setE (opA x true n))) x = some (setE (opA x true n) v) from vb, hsv]
        refine cond_T rfl (cond_F rfl (cond_T (by show (n == n) = true; simp) ?_))
        refine chain8 (by rw [decide_eq_true (rfl : s = s)]; rfl) ?_
        exact congrArg (fun b : Bool => some ((b, ()), ())) (show (v.2.1 == v.2.1) = true by rw [beqS]; simp)
theorem law7 (l : List (List OpT)) (x : ID) (y : k68.T) (_ : wfK (.sl k75) l) (_ : wfK k29 x) (_ : wfK k68 y) (hb : bulkK (.sl k75) l + bulkK k29 x + bulkK k68 y ≤ 1048576) : FX NoG 7 sg7 ((l, x, y, ()), ()) = some ((true, ()), ()) := by
  obtain ⟨h1, h2⟩ := edits_small (l := l) (m := 1048576) (by omega)
  obtain ⟨tx, n, oe⟩ := y
  have h3 : bulkK k68 (tx, (n, oe)) = tx.size + 1 + (1 + 1) := rfl
  exact pure7 (fun _ _ => rfl) l x tx n oe (by omega) (fun e he o ho => Nat.le_trans (h2 e he o ho) (by omega)) (by omega)
end Go.Vs
