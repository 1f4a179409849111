/- EditLeaves answers true, of data. -/
import Derived.Test.YtpldhjjpeldkaaaGreatSplits
import Derived.Test.YtpldhjjpeldkaaaGreatEuler

set_option linter.unusedVariables false
set_option linter.unusedSimpArgs false
namespace Go.Vs
open Go.Proofs Go.Cy
variable {G : (f : FuncId) → (g : Sig) → Option (g.A → Option g.B)}

/-! ### A vertex alone taken away -/
structure Lone (d : Diag) (v : Vert) : Prop where
  w : Wf d
  m : v ∈ d.1
  r : v.2.1 = []
theorem Lone.split {d : Diag} {v : Vert} (h : Lone d v) : ∃ a b, d.1 = a ++ v :: b ∧ (without d v.1 zI) = (a ++ b, d.2) ∧ darts (a ++ b) ⊆ darts d.1 ∧ (darts d.1).Perm (darts (a ++ b)) := by
  obtain ⟨a, b, h1, _, h2, _⟩ := splitV h.w.sv h.m
  have p : (darts d.1).Perm (darts (a ++ b)) := by
    have := darts_mid a b v
    rw [← h1, h.r, List.nil_append] at this; exact this
  exact ⟨a, b, h1, by unfold without; rw [h2, drop_zE h.w.ge], fun x hx => p.mem_iff.2 hx, p⟩
theorem Lone.wf {d : Diag} {v : Vert} (h : Lone d v) : Wf (without d v.1 zI) := h.w.dropV0 h.m h.r
theorem Lone.mem {d : Diag} {v : Vert} (h : Lone d v) {u : Vert} : u ∈ (without d v.1 zI).1 ↔ u ∈ d.1 ∧ u.1 ≠ v.1 := by
  show u ∈ dropV d.1 v.1 ↔ _
  unfold dropV
  rw [List.mem_filter]; simp
theorem Lone.dart {d : Diag} {v : Vert} (h : Lone d v) : (darts (without d v.1 zI).1).Perm (darts d.1) := by
  obtain ⟨a, b, _, h2, _, h3⟩ := h.split
  rw [h2]; exact h3.symm
theorem Lone.holder {d : Diag} {v : Vert} (h : Lone d v) {u : Vert} {z : Dart} (hu : u ∈ d.1) (hz : z ∈ u.2.1) : u ∈ (without d v.1 zI).1 := by
  refine h.mem.2 ⟨hu, fun k => ?_⟩
  rw [uniqV h.w.sv h.m hu k, h.r] at hz; simp at hz
theorem Lone.at {d : Diag} {v : Vert} (h : Lone d v) {z : Dart} (hz : z ∈ darts d.1) : atD (without d v.1 zI) z = atD d z := by
  obtain ⟨u, hu, hzu⟩ := mem_darts.1 hz
  show atV (without d v.1 zI).1 z = atV d.1 z
  rw [atV_of h.w.rw hu hzu, atV_of h.wf.rw (h.holder hu hzu) hzu]
theorem Lone.adj {d : Diag} {v : Vert} (h : Lone d v) {a b : ID} : Adj (without d v.1 zI) a b ↔ Adj d a b := by
  constructor
  · rintro ⟨z, hz, h1, h2⟩
    have hz := h.dart.mem_iff.1 hz
    exact ⟨z, hz, by rw [← h.at hz]; exact h1, by rw [← h.at (h.w.other hz)]; exact h2⟩
  · rintro ⟨z, hz, h1, h2⟩
    exact ⟨z, h.dart.mem_iff.2 hz, by rw [h.at hz]; exact h1, by rw [h.at (h.w.other hz)]; exact h2⟩
theorem Lone.conn {d : Diag} {v : Vert} (h : Lone d v) {a b : ID} : Conn (without d v.1 zI) a b ↔ Conn d a b := by
  constructor
  · intro k
    induction k with
    | refl => exact .refl _
    | tail _ j ih => exact ih.tail (h.adj.1 j)
  · intro k
    induction k with
    | refl => exact .refl _
    | tail _ j ih => exact ih.tail (h.adj.2 j)
theorem Lone.alone {d : Diag} {v : Vert} (h : Lone d v) {b : ID} (k : Conn d v.1 b) : b = v.1 := by
  have key : ∀ {a b : ID}, Conn d a b → a = v.1 → b = v.1 := fun {a b} k ha => by
    induction k with
    | refl => exact ha
    | tail _ j ih =>
      obtain ⟨z, hz, h1, _⟩ := j
      obtain ⟨u, hu, hzu, hat⟩ := at_of h.w hz
      rw [hat, ih] at h1
      have := Option.some.inj h1
      rw [uniqV h.w.sv h.m hu this, h.r] at hzu; simp at hzu
  exact key k rfl
theorem Lone.reps {d : Diag} {v : Vert} (h : Lone d v) {R : List ID} (hr : Reps d R) : ∃ R2, Reps (without d v.1 zI) R2 ∧ R2.length + 1 = R.length := by
  obtain ⟨r, hrr, hvr⟩ := hr.c v h.m
  have hv : v.1 ∈ R := by rw [← h.alone hvr]; exact hrr
  refine ⟨R.erase v.1, ⟨hr.n.erase _, fun s hs => ?_, fun s hs t ht k => hr.i s (List.mem_of_mem_erase hs) t (List.mem_of_mem_erase ht) (h.conn.1 k), fun u hu => ?_⟩, ?_⟩
  · obtain ⟨u, hu, he⟩ := hr.v s (List.mem_of_mem_erase hs)
    refine ⟨u, h.mem.2 ⟨hu, fun k => ?_⟩, he⟩
    have : s = v.1 := he.symm.trans k
    subst this
    exact absurd hs (List.Nodup.not_mem_erase hr.n)
  · obtain ⟨hu1, hu2⟩ := h.mem.1 hu
    obtain ⟨s, hs, hus⟩ := hr.c u hu1
    refine ⟨s, (List.mem_erase_of_ne fun k => ?_).2 hs, h.conn.2 hus⟩
    subst k
    exact hu2 (h.alone (hus.symm h.w))
  · rw [List.length_erase_of_mem hv]
    have := List.length_pos_of_mem hv; omega
theorem Lone.ph {d : Diag} {v : Vert} (h : Lone d v) {z : Dart} (hz : z ∈ darts d.1) : ph (without d v.1 zI) z = ph d z := by
  rw [ph_of hz, ph_of (h.dart.mem_iff.2 hz)]
  obtain ⟨u, hu, hzu⟩ := mem_darts.1 (h.w.other hz)
  rw [sg_of h.w.rw hu hzu, sg_of h.wf.rw (h.holder hu hzu) hzu]
theorem Lone.faces {d : Diag} {v : Vert} (h : Lone d v) : (Vs.faces (without d v.1 zI)).length = (Vs.faces d).length := by
  have a := faces_dec h.wf
  have b := faces_dec h.w
  refine Dec.count h.w.rw.n ⟨fun c hc => ?_, a.p.trans h.dart⟩ b
  refine (a.c c hc).congr fun z hz => ?_
  have : z ∈ darts (without d v.1 zI).1 := a.p.mem_iff.1 (List.mem_flatten.2 ⟨c, hc, hz⟩)
  exact (h.ph (h.dart.mem_iff.1 this)).symm
theorem countL_len {d : Diag} (hw : Wf d) {R : List ID} (hr : Reps d R) : countL d = (R.length : Int) := by
  rw [countL_eq hw, (firsts_reps hw (labels_can hw)).len hw hr]

/-! ### A leaf -/
structure Leaf (d : Diag) (v : Vert) (y : Dart) : Prop where
  w : Wf d
  m : v ∈ d.1
  r : v.2.1 = [y]
theorem Leaf.mem {d : Diag} {v : Vert} {y : Dart} (h : Leaf d v y) : y ∈ darts d.1 := mem_darts.2 ⟨v, h.m, by rw [h.r]; simp⟩
theorem Leaf.cut {d : Diag} {v : Vert} {y : Dart} (h : Leaf d v y) : CutOf d y.1 := by
  obtain ⟨e, he, h1, _⟩ := mem_ends.1 (h.w.pd.mem_iff.1 h.mem)
  exact ⟨h.w, by unfold findE; rw [List.find?_isSome]; exact ⟨e, he, by simpa using h1⟩⟩
theorem Leaf.lone {d : Diag} {v : Vert} {y : Dart} (h : Leaf d v y) : ∃ u, Lone (cutD d y.1) u ∧ u.1 = v.1 := by
  obtain ⟨u, hu, hid⟩ := h.cut.vert.2 ⟨v, h.m, rfl⟩
  refine ⟨u, ⟨h.cut.w, hu, ?_⟩, hid⟩
  cases hq : u.2.1 with
  | nil => rfl
  | cons z r =>
    exfalso
    have hz : z ∈ u.2.1 := by rw [hq]; simp
    have hzd : z ∈ darts (cutD d y.1).1 := mem_darts.2 ⟨u, hu, hz⟩
    have h1 : atD (cutD d y.1) z = some u.1 := atV_of h.cut.w.rw hu hz
    rw [h.cut.at hzd, hid] at h1
    obtain ⟨w, hw, hzw, hat⟩ := at_of h.w (h.cut.sub hzd)
    rw [hat] at h1
    have hwv := uniqV h.w.sv h.m hw (Option.some.inj h1)
    rw [hwv, h.r] at hzw
    have hzy : z = y := by simpa using hzw
    have nd := h.cut.p.nodup_iff.1 h.w.rw.n
    have e : y = (y.1, y.2) := rfl
    rcases h.w.side h.mem with k | k
    · rw [k] at e
      exact (List.nodup_cons.1 nd).1 (List.mem_cons_of_mem _ (e ▸ hzy ▸ hzd))
    · rw [k] at e
      exact (List.nodup_cons.1 (List.nodup_cons.1 nd).2).1 (e ▸ hzy ▸ hzd)
theorem Leaf.back {d : Diag} {v : Vert} {y : Dart} (h : Leaf d v y) : ph d (otherD y) = y := by
  rw [ph_of (h.w.other h.mem), otherD_other (h.w.side h.mem)]
  have hy : y ∈ v.2.1 := by rw [h.r]; simp
  rw [sg_of h.w.rw h.m hy]
  exact (nextR_one (h.w.rw.ring h.m) hy).2 (by rw [h.r]; rfl)
theorem Leaf.one {d : Diag} {v : Vert} {y : Dart} (h : Leaf d v y) : oneF d (y.1, 0) (y.1, 1) := by
  have hm : otherD y ∈ (faces d).flatten := (faces_dec h.w).p.mem_iff.2 (h.w.other h.mem)
  obtain ⟨c, hc, h1⟩ := List.mem_flatten.1 hm
  have h2 := ((faces_dec h.w).c c hc).step h1
  rw [h.back] at h2
  have e : y = (y.1, y.2) := rfl
  have eo : otherD y = (y.1, (otherD y).2) := rfl
  obtain ⟨_, k⟩ := otherD_in (h.w.side h.mem)
  rcases k with ⟨k1, k2⟩ | ⟨k1, k2⟩
  · rw [k1] at e; rw [k2] at eo
    exact ⟨c, hc, e ▸ h2, eo ▸ h1⟩
  · rw [k1] at e; rw [k2] at eo
    exact ⟨c, hc, eo ▸ h1, e ▸ h2⟩
theorem Leaf.faces {d : Diag} {v : Vert} {y : Dart} (h : Leaf d v y) : (Vs.faces (cutD d y.1)).length ≤ (Vs.faces d).length := by
  have h1 := (h.cut.same h.one).2
  have hb := h.back
  have e : y = (y.1, y.2) := rfl
  have eo : otherD y = (y.1, (otherD y).2) := rfl
  obtain ⟨_, k⟩ := otherD_in (h.w.side h.mem)
  rcases k with ⟨k1, k2⟩ | ⟨k1, k2⟩
  · rw [k1] at e; rw [k2] at eo
    have : ph d (y.1, 1) = (y.1, 0) := by rw [← eo, hb]; exact e
    rw [if_pos this] at h1
    split at h1 <;> omega
  · rw [k1] at e; rw [k2] at eo
    have : ph d (y.1, 0) = (y.1, 1) := by rw [← eo, hb]; exact e
    rw [if_pos this] at h1
    split at h1 <;> omega
theorem Leaf.parts {d : Diag} {v : Vert} {y : Dart} (h : Leaf d v y) {u : Vert} (hu : Lone (cutD d y.1) u) (hid : u.1 = v.1) : countL (without (cutD d y.1) v.1 zI) = countL d := by
  obtain ⟨a, b, ha, hb, _, _⟩ := h.cut.ends_of
  have hr := firsts_reps h.w (labels_can h.w)
  have hyv : atD d y = some v.1 := atV_of h.w.rw h.m (by rw [h.r]; simp)
  have hov : atD d (otherD y) ≠ some v.1 := fun k => by
    obtain ⟨w, hw, hzw, hat⟩ := at_of h.w (h.w.other h.mem)
    rw [hat] at k
    rw [uniqV h.w.sv h.m hw (Option.some.inj k), h.r] at hzw
    have hzw : otherD y = y := by simpa using hzw
    obtain ⟨_, m⟩ := otherD_in (h.w.side h.mem)
    rw [hzw] at m; omega
  have hne : a ≠ b ∧ (a = v.1 ∨ b = v.1) := by
    have e : y = (y.1, y.2) := rfl
    have eo : otherD y = (y.1, (otherD y).2) := rfl
    obtain ⟨_, k⟩ := otherD_in (h.w.side h.mem)
    rcases k with ⟨k1, k2⟩ | ⟨k1, k2⟩
    · rw [k1] at e; rw [k2] at eo
      rw [e, ha] at hyv
      rw [eo, hb] at hov
      have := Option.some.inj hyv
      exact ⟨fun k => hov (by rw [← k, this]), .inl this⟩
    · rw [k1] at e; rw [k2] at eo
      rw [e, hb] at hyv
      rw [eo, ha] at hov
      have := Option.some.inj hyv
      exact ⟨fun k => hov (by rw [k, this]), .inr this⟩
  have hnc : ¬ Conn (cutD d y.1) a b := fun k => by
    rcases hne.2 with m | m
    · rw [m, ← hid] at k
      exact hne.1 (m.trans (hid ▸ hu.alone k).symm)
    · rw [m, ← hid] at k
      exact hne.1 ((hid ▸ hu.alone (k.symm h.cut.w) : a = v.1).trans m.symm)
  obtain ⟨R2, h2, h3⟩ := h.cut.reps2 ha hb hnc hr
  obtain ⟨R3, h4, h5⟩ := hu.reps h2
  rw [hid] at h4
  have hwf := hu.wf
  rw [hid] at hwf
  rw [countL_len hwf h4, countL_len h.w hr]
  omega

theorem mayOp_K {k : Int} {x : ID} (hk : k = 1 ∨ k = 2 ∨ k = 4) (hx : mayI x = true) : mayOp (opK k x) = 0 := by
  unfold mayOp
  have e : eqOp (restR (opK k x)) zOp = true := by
    rcases hk with rfl | rfl | rfl <;> exact (eqOp_iff _ _).2 rfl
  have h1 : (opK k x).1 = k := rfl
  rw [if_neg (by rw [h1]; omega), if_neg (by rw [h1]; omega), if_neg (by simp [opK, hx]), if_neg (by rw [e]; simp), if_neg (by rw [h1]; omega), if_neg (by rw [h1]; omega), if_neg (by rw [h1]; omega), if_neg (by rw [h1]; omega), if_neg (by rw [h1]; omega)]
theorem fit_K (k : Int) (x : ID) : Fit (opK k x) := ⟨inR0, inR0, inR0, by show e0.size ≤ _; simp [e0, ByteArray.size]⟩
theorem pure8 (hG : ∀ f g, G f g = none) (l : List (List OpT)) (x : ID) (hl : l.length ≤ 1073741824) (ht : ∀ e ∈ l, ∀ o ∈ e, textOk o) : FX G 8 sg8 ((l, x, ()), ()) = some ((true, ()), ()) := by
  refine fx_of (fn := Tryz.f8) (hG _ _) (by kernel_rfl) (by kernel_rfl) ((nf8 _ _ _).trans ?_)
  refine bind_of (fx12 hG) ?_
  refine bind_of (fx17 hG l hl ht) ?_
  have hwf := WfS.reached l
  generalize reachedR l = s at *
  have hnv := hwf.d.nv; have hne := hwf.d.ne
  refine bind_of (fx18 (hG _ _) s.1 x (by omega)) ?_
  have hV : (orV zV (vertex s.1 x)).2.1 = (findV s.1.1 x).isSome := orV_snd _ _
  cases hfv : findV s.1.1 x with
  | none =>
    rw [hfv] at hV
    exact cond_not_of hV rfl
  | some v =>
  rw [hfv] at hV
  refine cond_not_of hV (cond_F rfl ?_)
  have hv := findV_mem hfv
  have hid := findV_id hfv
  have hxm : mayI x = true := by rw [← hid]; exact (hwf.d.gv v hv).i
  have hm2 := mayOp_K (k := 2) (.inr (.inl rfl)) hxm
  refine bind_of (fx14_but hG s (opK 2 x) hwf (fit_K 2 x) (fun _ k => by cases k)) ?_
  have hrem : oneR s (opK 2 x) = if 0 < v.2.1.length then (zS, (14, ())) else ((without s.1 x zI, s.2), (0, ())) := by
    rw [oneR_kind, if_neg (by simp [hm2])]
    show remVR s (opK 2 x) = _
    unfold remVR
    rw [show vertex s.1 (oId (opK 2 x)) = some v from hfv]
    rfl
  rw [show vertex s.1 x = some v from hfv, hrem]
  by_cases h0 : v.2.1.length = 0
  · rw [if_neg (by omega)]
    refine cond_T (show (((v.2.1.length : Nat) : Int) == 0) = true by simp [h0]) ?_
    exact cond_T rfl rfl
  rw [if_pos (by omega)]
  refine cond_F (show (((v.2.1.length : Nat) : Int) == 0) = false by rw [beq_eq_false_iff_ne]; omega) ?_
  refine cond_F rfl ?_
  by_cases h1 : v.2.1.length = 1
  case neg =>
    exact cond_T (show (((v.2.1.length : Nat) : Int) != 1) = true by rw [bne_iff_ne]; omega) rfl
  refine cond_F (show (((v.2.1.length : Nat) : Int) != 1) = false by simp [h1]) ?_
  obtain ⟨y, hy⟩ : ∃ y, v.2.1 = [y] := by
    match hq : v.2.1, h1 with
    | [a], _ => exact ⟨a, rfl⟩
  have hlf : Leaf s.1 v y := ⟨hwf.d, hv, hy⟩
  refine bind_of (show getI v.2.1 (0 : Int) = some y by rw [hy]; rfl) ?_
  obtain ⟨u, hu, huv⟩ := hlf.lone
  obtain ⟨e, hee⟩ := Option.isSome_iff_exists.1 hlf.cut.e
  have hym : mayI y.1 = true := by rw [← findE_id hee]; exact (hwf.d.ge e (findE_mem hee)).i
  have hm4 := mayOp_K (k := 4) (.inr (.inr rfl)) hym
  -- what comes of the edit
  obtain ⟨gg, hgg⟩ : ∃ gg, gg = addGone (addGone s.2 ((y.1, 0), aheadD s.1 (y.1, 0))) ((y.1, 1), aheadD s.1 (y.1, 1)) := ⟨_, rfl⟩
  have o1 : oneR s (opK 4 y.1) = ((cutD s.1 y.1, gg), (0, ())) := by
    rw [oneR_kind, if_neg (by simp [hm4])]
    show cutR s (opK 4 y.1) = _
    rw [hgg]
    exact if_neg (show ¬ (edge s.1 y.1).isSome = false by show ¬ (findE s.1.2 y.1).isSome = false; rw [hlf.cut.e]; simp)
  have hfu : findV (cutD s.1 y.1).1 x = some u := by rw [← hid, ← huv]; exact findV_of hu.w.sv hu.m
  have o2 : oneR (cutD s.1 y.1, gg) (opK 2 x) = ((without (cutD s.1 y.1) x zI, gg), (0, ())) := by
    rw [oneR_kind, if_neg (by simp [hm2])]
    show remVR (cutD s.1 y.1, gg) (opK 2 x) = _
    unfold remVR
    rw [show vertex (cutD s.1 y.1, gg).1 (oId (opK 2 x)) = some u from hfu]
    exact if_neg (by rw [hu.r]; simp)
  have hap : applyR s [opK 4 y.1, opK 2 x] = ((without (cutD s.1 y.1) x zI, gg), (0, ())) := by
    have hme : mayEdit [opK 4 y.1, opK 2 x] = 0 := by
      unfold mayEdit
      rw [if_pos (by simp)]
      simp [firstBad, hm4, hm2]
    unfold applyR
    rw [if_neg (by simp [hme])]
    unfold goR
    rw [o1, if_neg (by simp)]
    unfold goR
    rw [o2, if_neg (by simp)]
    rfl
  have hfit : ∀ o ∈ [opK 4 y.1, opK 2 x], Fit o := fun o ho => by
    simp only [List.mem_cons, List.not_mem_nil, or_false] at ho
    rcases ho with rfl | rfl <;> exact fit_K _ _
  have hlk : ∀ o ∈ [opK 4 y.1, opK 2 x], LinkOk G o := fun o ho => by
    simp only [List.mem_cons, List.not_mem_nil, or_false] at ho
    rcases ho with rfl | rfl <;> exact linkOk_no (by simp [opK])
  have f30 := fx30 hG s [opK 4 y.1, opK 2 x] hwf (by simp) hfit hlk
  rw [hap] at f30
  refine bind_of f30 ?_
  refine bind_of (fx31 hG s.1 hwf.d.sm (by omega)) ?_
  refine bind_of (fx32 hG s.1 hwf.d.sm) ?_
  have hxv : x = u.1 := by rw [huv, hid]
  have hwt : Wf (without (cutD s.1 y.1) x zI) := by rw [hxv]; exact hu.wf
  have hcl : (cutD s.1 y.1).1.length = s.1.1.length := by have := congrArg List.length hlf.cut.ids; simpa using this
  have hvl : (without (cutD s.1 y.1) x zI).1.length + 1 = s.1.1.length := by
    obtain ⟨a, b, k1, k2, _, _⟩ := hu.split
    rw [hxv, k2]
    have := congrArg List.length k1
    rw [hcl] at this
    simp at this ⊢; omega
  have hel : (without (cutD s.1 y.1) x zI).2.length + 1 = s.1.2.length := by
    have e2 : (without (cutD s.1 y.1) x zI).2 = (cutD s.1 y.1).2 := drop_zE hu.w.ge
    rw [e2]
    have k1 := hlf.cut.w.pd.length_eq
    have k2 := hwf.d.pd.length_eq
    have k3 := hlf.cut.p.length_eq
    rw [ends_length] at k1 k2
    simp at k3; omega
  refine cond_T rfl (cond_T rfl ?_)
  have w1 : IntKind.wrap .i64 (((s.1.1.length : Nat) : Int) - 1) = (((without (cutD s.1 y.1) x zI).1.length : Nat) : Int) := by rw [wrap_small (by omega) (by omega)]; omega
  have w2 : IntKind.wrap .i64 (((s.1.2.length : Nat) : Int) - 1) = (((without (cutD s.1 y.1) x zI).2.length : Nat) : Int) := by rw [wrap_small (by omega) (by omega)]; omega
  refine cond_T (show ((((without (cutD s.1 y.1) x zI).1.length : Nat) : Int) == IntKind.wrap .i64 (((s.1.1.length : Nat) : Int) - 1)) = true by rw [w1]; simp) ?_
  refine cond_T (show ((((without (cutD s.1 y.1) x zI).2.length : Nat) : Int) == IntKind.wrap .i64 (((s.1.2.length : Nat) : Int) - 1)) = true by rw [w2]; simp) ?_
  refine bind_of (fx32 hG (without (cutD s.1 y.1) x zI) hwt.sm) ?_
  have hparts := hlf.parts hu huv
  rw [hid] at hparts
  refine cond_T (show (countL (without (cutD s.1 y.1) x zI) == countL s.1) = true by rw [hparts]; simp) ?_
  refine bind_of (fx31 hG (without (cutD s.1 y.1) x zI) hwt.sm (by have := hwt.ne; omega)) ?_
  refine congrArg (fun b : Bool => some ((b, ()), ())) (decide_eq_true ?_)
  have hfc := hlf.faces
  have hfl := hu.faces
  rw [← hxv] at hfl
  show (((faces (without (cutD s.1 y.1) x zI)).length : Nat) : Int) ≤ (((faces s.1).length : Nat) : Int)
  omega
theorem law8 (l : List (List OpT)) (x : ID) (_ : wfK (.sl k75) l) (_ : wfK k29 x) (hb : bulkK (.sl k75) l + bulkK k29 x ≤ 1048576) : FX NoG 8 sg8 ((l, x, ()), ()) = some ((true, ()), ()) := by
  obtain ⟨h1, h2⟩ := edits_small (l := l) (m := 1048576) (by omega)
  exact pure8 (fun _ _ => rfl) l x (by omega) (fun e he o ho => Nat.le_trans (h2 e he o ho) (by omega))
end Go.Vs
