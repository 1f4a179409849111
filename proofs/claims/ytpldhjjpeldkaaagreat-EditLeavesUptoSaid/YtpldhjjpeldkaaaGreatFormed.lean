/- Diagrams that are well formed stay so. -/
import Derived.Test.YtpldhjjpeldkaaaGreatRings

set_option linter.unusedVariables false
set_option linter.unusedSimpArgs false
namespace Go.Vs
open Go.Proofs

/-! ### Rings -/
theorem turn_perm (row : List Dart) : (turn row).Perm row := by
  unfold turn rot
  exact List.perm_append_comm.trans (List.Perm.of_eq (List.take_append_drop _ _))
theorem mini_zero {row : List Dart} (h : 0 < row.length) (hl : ∀ j, (hj : j < row.length) → ltD row[j] row[0] = false) : mini row row 0 0 = 0 := by
  have hm := mini_lt row row 0 0 h (by omega)
  have h2 := (mini_least h).2 0
  by_cases hz : mini row row 0 0 = 0
  · exact hz
  · have := h2 (by omega) h
    rw [getD_of hm, hl _ hm] at this; cases this
theorem rot_zero (row : List Dart) : rot row 0 = row := by unfold rot; simp
theorem turn_turn (row : List Dart) : turn (turn row) = turn row := by
  by_cases h0 : row.length = 0
  · have : row = [] := by simpa using h0
    subst this; rfl
  have hp : 0 < row.length := by omega
  have hm := mini_lt row row 0 0 hp (by omega)
  have hp2 : 0 < (turn row).length := by rw [turn_length]; exact hp
  have h1 : (turn row)[0] = row.getD (mini row row 0 0) zD := by
    have := rot_get (row := row) (k := mini row row 0 0) (i := 0) (by omega) hp
    rw [Nat.add_zero, Nat.mod_eq_of_lt hm, List.getElem?_eq_getElem hm] at this
    rw [getD_of hm]
    exact (List.getElem?_eq_some_iff.1 this).2
  have h2 : mini (turn row) (turn row) 0 0 = 0 := by
    refine mini_zero hp2 (fun j hj => ?_)
    rw [h1]
    have hmem : (turn row)[j] ∈ row := mem_turn.1 (List.getElem_mem hj)
    obtain ⟨i, hi, he⟩ := List.getElem_of_mem hmem
    rw [← he]
    exact (mini_least hp).1 i hi
  unfold turn at h2 ⊢
  rw [h2, rot_zero]
theorem insR_turn (row : List Dart) (a d : Dart) : turn (insR row a d) = insR row a d := by unfold insR; split <;> exact turn_turn _
theorem remR_turn (row : List Dart) (d : Dart) : turn (remR row d) = remR row d := turn_turn _
theorem swapR_turn (row : List Dart) (a d : Dart) : turn (swapR row a d) = swapR row a d := turn_turn _
theorem insR_perm {row : List Dart} {d : Dart} (a : Dart) (h : d ∉ row) : (insR row a d).Perm (d :: row) := by
  unfold insR
  rw [if_neg h]
  refine (turn_perm _).trans (List.perm_middle.trans ?_)
  rw [List.take_append_drop]
theorem remR_perm {row : List Dart} {d : Dart} (h : d ∈ row) (hn : row.Nodup) : row.Perm (d :: remR row d) := by
  obtain ⟨k, _, h2, _⟩ := idx_some h
  obtain ⟨h3, h4⟩ := List.getElem?_eq_some_iff.1 h2
  unfold remR
  rw [erase_one hn h2]
  refine List.Perm.trans ?_ (List.Perm.cons d (turn_perm _).symm)
  conv => lhs; rw [← List.take_append_drop k row, List.drop_eq_getElem_cons h3, h4]
  exact List.perm_middle
theorem swapR_perm {row : List Dart} {old d : Dart} (h : old ∈ row) (hd : d ∉ row) : (d :: row).Perm (old :: swapR row old d) := by
  obtain ⟨k, h1, h2, _⟩ := idx_some h
  obtain ⟨h3, h4⟩ := List.getElem?_eq_some_iff.1 h2
  unfold swapR
  rw [if_pos ⟨h, hd⟩, h1, Int.toNat_natCast]
  refine List.Perm.trans ?_ (List.Perm.cons old (turn_perm _).symm)
  rw [List.set_eq_take_append_cons_drop, if_pos h3]
  conv => lhs; rw [← List.take_append_drop k row, List.drop_eq_getElem_cons h3, h4]
  have p1 : (row.take k ++ old :: row.drop (k + 1)).Perm (old :: (row.take k ++ row.drop (k + 1))) := List.perm_middle
  have p2 : (row.take k ++ d :: row.drop (k + 1)).Perm (d :: (row.take k ++ row.drop (k + 1))) := List.perm_middle
  exact (List.Perm.cons d p1).trans ((List.Perm.swap old d _).trans (List.Perm.cons old p2.symm))

/-! ### Darts -/
def darts (l : List Vert) : List Dart := l.flatMap fun v => v.2.1
def ends (l : List EdgeT) : List Dart := l.flatMap fun e => [(e.1, 0), (e.1, 1)]
theorem darts_cons (v : Vert) (l : List Vert) : darts (v :: l) = v.2.1 ++ darts l := List.flatMap_cons
theorem darts_app (a b : List Vert) : darts (a ++ b) = darts a ++ darts b := List.flatMap_append
theorem darts_mid (a b : List Vert) (v : Vert) : (darts (a ++ v :: b)).Perm (v.2.1 ++ darts (a ++ b)) := by
  rw [darts_app, darts_cons, darts_app, ← List.append_assoc, ← List.append_assoc]
  exact List.Perm.append_right _ List.perm_append_comm
theorem mem_darts {x : Dart} {l : List Vert} : x ∈ darts l ↔ ∃ v ∈ l, x ∈ v.2.1 := List.mem_flatMap
theorem ends_cons (e : EdgeT) (l : List EdgeT) : ends (e :: l) = (e.1, 0) :: (e.1, 1) :: ends l := by unfold ends; rw [List.flatMap_cons]; rfl
theorem mem_ends {x : Dart} {l : List EdgeT} : x ∈ ends l ↔ ∃ e ∈ l, e.1 = x.1 ∧ (x.2 = 0 ∨ x.2 = 1) := by
  unfold ends
  rw [List.mem_flatMap]
  constructor
  · rintro ⟨e, he, hx⟩
    rcases List.mem_cons.1 hx with rfl | hx
    · exact ⟨e, he, rfl, .inl rfl⟩
    · rw [List.mem_singleton] at hx; subst hx; exact ⟨e, he, rfl, .inr rfl⟩
  · rintro ⟨e, he, h1, h2⟩
    refine ⟨e, he, ?_⟩
    obtain ⟨x1, x2⟩ := x
    simp only at h1 h2
    subst h1
    rcases h2 with rfl | rfl <;> simp
theorem ends_nodup : ∀ {l : List EdgeT}, SortE l → (ends l).Nodup
  | [], _ => List.nodup_nil
  | e :: r, h => by
    have hne : ∀ s : Int, (e.1, s) ∉ ends r := fun s hs => by
      obtain ⟨f, hf, h1, _⟩ := mem_ends.1 hs
      have := List.rel_of_pairwise_cons h hf
      simp only at h1
      rw [h1, ltI_irrefl] at this; cases this
    rw [ends_cons]
    refine List.nodup_cons.2 ⟨?_, List.nodup_cons.2 ⟨hne 1, ends_nodup h.of_cons⟩⟩
    rw [List.mem_cons]
    rintro (h1 | h1)
    · cases h1
    · exact hne 0 h1
theorem addE_perm (e : EdgeT) : ∀ l : List EdgeT, (addE e l).Perm (e :: l)
  | [] => List.Perm.refl _
  | w :: r => by
    unfold addE
    split
    · exact List.Perm.refl _
    · exact (List.Perm.cons w (addE_perm e r)).trans (List.Perm.swap e w r)
theorem addV_perm (e : Vert) : ∀ l : List Vert, (addV e l).Perm (e :: l)
  | [] => List.Perm.refl _
  | w :: r => by
    unfold addV
    split
    · exact List.Perm.refl _
    · exact (List.Perm.cons w (addV_perm e r)).trans (List.Perm.swap e w r)
theorem ends_addE (e : EdgeT) (l : List EdgeT) : (ends (addE e l)).Perm ((e.1, 0) :: (e.1, 1) :: ends l) := by
  rw [← ends_cons]
  exact List.Perm.flatMap_right _ (addE_perm e l)
theorem darts_addV (v : Vert) (l : List Vert) : (darts (addV v l)).Perm (v.2.1 ++ darts l) := by
  rw [← darts_cons]
  exact List.Perm.flatMap_right _ (addV_perm v l)
theorem ends_dropE {l : List EdgeT} {x : ID} (hs : SortE l) (h : (findE l x).isSome = true) : (ends l).Perm ((x, 0) :: (x, 1) :: ends (dropE l x)) := by
  obtain ⟨e, he⟩ := Option.isSome_iff_exists.1 h
  obtain ⟨h3, h4⟩ := List.getElem?_eq_some_iff.1 (get_cntE hs he)
  rw [dropE_cnt hs h]
  conv => lhs; rw [← List.take_append_drop (cntE l x) l, List.drop_eq_getElem_cons h3, h4]
  rw [← findE_id he, ← ends_cons]
  exact List.Perm.flatMap_right _ List.perm_middle

/-! ### A vertex in its row -/
theorem findV_of {l : List Vert} {v : Vert} (hs : SortV l) (h : v ∈ l) : findV l v.1 = some v := by
  have hf : (findV l v.1).isSome = true := by
    unfold findV; rw [List.find?_isSome]; exact ⟨v, h, by simp⟩
  obtain ⟨u, hu⟩ := Option.isSome_iff_exists.1 hf
  have h1 := get_cntV hs hu
  obtain ⟨k, hk, he⟩ := List.getElem_of_mem h
  have h2 : l[k]? = some v := by rw [List.getElem?_eq_getElem hk, he]
  rw [cntV_only hs h2 rfl, h1] at h2
  rw [hu]; exact h2
theorem splitV {l : List Vert} {v : Vert} (hs : SortV l) (h : v ∈ l) : ∃ a b, l = a ++ v :: b ∧ (∀ u ∈ a ++ b, u.1 ≠ v.1) ∧ dropV l v.1 = a ++ b ∧ ∀ r, l.map (reR v.1 r) = a ++ (v.1, (r, v.2.2)) :: b := by
  obtain ⟨a, b, rfl⟩ := List.append_of_mem h
  have hp := List.pairwise_append.1 hs
  have hb := List.pairwise_cons.1 hp.2.1
  have hne : ∀ u ∈ a ++ b, u.1 ≠ v.1 := fun u hu e => by
    rcases List.mem_append.1 hu with hu | hu
    · have := hp.2.2 u hu v (by simp); rw [e, ltI_irrefl] at this; cases this
    · have := hb.1 u hu; rw [e, ltI_irrefl] at this; cases this
  have hm : ∀ (r : List Dart) (c : List Vert), (∀ u ∈ c, u.1 ≠ v.1) → c.map (reR v.1 r) = c := fun r c hc => by
    conv => rhs; rw [← List.map_id c]
    exact List.map_congr_left fun u hu => by unfold reR; rw [if_neg (hc u hu)]; rfl
  have hd : ∀ c : List Vert, (∀ u ∈ c, u.1 ≠ v.1) → dropV c v.1 = c := fun c hc => by
    unfold dropV; rw [List.filter_eq_self]; intro u hu; simpa using hc u hu
  refine ⟨a, b, rfl, hne, ?_, fun r => ?_⟩
  · unfold dropV
    rw [List.filter_append, List.filter_cons_of_neg (by simp)]
    have h1 := hd a (fun u hu => hne u (List.mem_append_left _ hu))
    have h2 := hd b (fun u hu => hne u (List.mem_append_right _ hu))
    unfold dropV at h1 h2
    rw [h1, h2]
  · rw [List.map_append, List.map_cons, hm r a (fun u hu => hne u (List.mem_append_left _ hu)), hm r b (fun u hu => hne u (List.mem_append_right _ hu))]
    unfold reR; rw [if_pos rfl]
/-- Rows of vertices in which a dart stands once. -/
structure Rw (l : List Vert) : Prop where
  s : SortV l
  n : (darts l).Nodup
theorem Rw.ring {l : List Vert} (h : Rw l) {v : Vert} (hv : v ∈ l) : v.2.1.Nodup := by
  obtain ⟨a, b, rfl, _⟩ := splitV h.s hv
  exact (List.nodup_append.1 ((darts_mid a b v).nodup_iff.1 h.n)).1
theorem Rw.one {l : List Vert} (h : Rw l) {v w : Vert} {x : Dart} (hv : v ∈ l) (hw : w ∈ l) (hx : x ∈ v.2.1) (hy : x ∈ w.2.1) : w = v := by
  obtain ⟨a, b, rfl, _⟩ := splitV h.s hv
  have hn := List.nodup_append.1 ((darts_mid a b v).nodup_iff.1 h.n)
  have : w ∈ a ++ v :: b := hw
  rw [List.mem_append, List.mem_cons] at this
  rcases this with k | k | k
  · exact absurd rfl (hn.2.2 x hx x (mem_darts.2 ⟨w, List.mem_append_left _ k, hy⟩))
  · exact k
  · exact absurd rfl (hn.2.2 x hx x (mem_darts.2 ⟨w, List.mem_append_right _ k, hy⟩))
theorem atV_of {l : List Vert} (h : Rw l) {v : Vert} {x : Dart} (hv : v ∈ l) (hx : x ∈ v.2.1) : atV l x = some v.1 := by
  have hf : (l.find? fun u => decide (x ∈ u.2.1)).isSome = true := by rw [List.find?_isSome]; exact ⟨v, hv, by simpa using hx⟩
  obtain ⟨u, hu⟩ := Option.isSome_iff_exists.1 hf
  have h1 := List.mem_of_find?_eq_some hu
  have h2 : x ∈ u.2.1 := by simpa using List.find?_some hu
  unfold atV
  rw [hu, h.one hv h1 hx h2]; rfl
theorem ringAt_of {d : Diag} (h : SortV d.1) {v : Vert} (hv : v ∈ d.1) : ringAt d v.1 = v.2.1 := by
  unfold ringAt vertex; rw [findV_of h hv]; rfl
theorem removed_of {d : Diag} (h : Rw d.1) {v : Vert} {x : Dart} (hv : v ∈ d.1) (hx : x ∈ v.2.1) : removed d x = ringed d v.1 (remR v.2.1 x) := by
  unfold removed atD
  rw [atV_of h hv hx]
  show ringed d v.1 (remR (ringAt d v.1) x) = _
  rw [ringAt_of h.s hv]
theorem swapped_of {d : Diag} (h : Rw d.1) {v : Vert} {x : Dart} (y : Dart) (hv : v ∈ d.1) (hx : x ∈ v.2.1) : swapped d x y = ringed d v.1 (swapR v.2.1 x y) := by
  unfold swapped atD
  rw [atV_of h hv hx]
  show ringed d v.1 (swapR (ringAt d v.1) x y) = _
  rw [ringAt_of h.s hv]
theorem SortV.re {l : List Vert} (h : SortV l) (x : ID) (r : List Dart) : SortV (l.map (reR x r)) := h.map (reR_id x r)
theorem darts_re {l : List Vert} {v : Vert} (hs : SortV l) (hv : v ∈ l) : ∃ rest, (darts l).Perm (v.2.1 ++ rest) ∧ ∀ r, (darts (l.map (reR v.1 r))).Perm (r ++ rest) := by
  obtain ⟨a, b, h1, _, _, h2⟩ := splitV hs hv
  refine ⟨darts (a ++ b), ?_, fun r => ?_⟩
  · conv => lhs; rw [h1]
    exact darts_mid a b v
  · rw [h2 r]; exact darts_mid a b (v.1, (r, v.2.2))
theorem removed_perm {d : Diag} (h : Rw d.1) {x : Dart} (hx : x ∈ darts d.1) : (darts d.1).Perm (x :: darts (removed d x).1) ∧ Rw (removed d x).1 := by
  obtain ⟨v, hv, hxv⟩ := mem_darts.1 hx
  obtain ⟨rest, h1, h2⟩ := darts_re h.s hv
  rw [removed_of h hv hxv]
  have p : (darts d.1).Perm (x :: darts (ringed d v.1 (remR v.2.1 x)).1) :=
    h1.trans ((List.Perm.append_right rest (remR_perm hxv (h.ring hv))).trans (List.Perm.cons x (h2 _).symm))
  exact ⟨p, h.s.re _ _, (List.nodup_cons.1 (p.nodup_iff.1 h.n)).2⟩
theorem swapped_perm {d : Diag} (h : Rw d.1) {x y : Dart} (hx : x ∈ darts d.1) (hy : y ∉ darts d.1) : (y :: darts d.1).Perm (x :: darts (swapped d x y).1) ∧ Rw (swapped d x y).1 := by
  obtain ⟨v, hv, hxv⟩ := mem_darts.1 hx
  obtain ⟨rest, h1, h2⟩ := darts_re h.s hv
  rw [swapped_of h y hv hxv]
  have hyv : y ∉ v.2.1 := fun k => hy (mem_darts.2 ⟨v, hv, k⟩)
  have p : (y :: darts d.1).Perm (x :: darts (ringed d v.1 (swapR v.2.1 x y)).1) :=
    (List.Perm.cons y h1).trans ((List.Perm.append_right rest (swapR_perm hxv hyv)).trans (List.Perm.cons x (h2 _).symm))
  refine ⟨p, h.s.re _ _, ?_⟩
  exact (List.nodup_cons.1 (p.nodup_iff.1 (List.nodup_cons.2 ⟨hy, h.n⟩))).2
theorem inserted_perm {d : Diag} (h : Rw d.1) {c : Cor} {x : Dart} {v : Vert} (hv : findV d.1 c.1 = some v) (hx : x ∉ darts d.1) : (darts (inserted d c x).1).Perm (x :: darts d.1) ∧ Rw (inserted d c x).1 := by
  have hvm := findV_mem hv
  have hvi := findV_id hv
  obtain ⟨rest, h1, h2⟩ := darts_re h.s hvm
  have hxv : x ∉ v.2.1 := fun k => hx (mem_darts.2 ⟨v, hvm, k⟩)
  have e : inserted d c x = ringed d v.1 (insR v.2.1 c.2 x) := by
    unfold inserted
    rw [← hvi, ringAt_of h.s hvm]
  rw [e]
  have p : (darts (ringed d v.1 (insR v.2.1 c.2 x)).1).Perm (x :: darts d.1) :=
    (h2 _).trans ((List.Perm.append_right rest (insR_perm c.2 hxv)).trans (List.Perm.cons x h1.symm))
  exact ⟨p, h.s.re _ _, p.nodup_iff.2 (List.nodup_cons.2 ⟨hx, h.n⟩)⟩

/-! ### Well-formed diagrams -/
structure GV (v : Vert) : Prop where
  i : mayI v.1 = true
  l : mayL v.2.2.1 = true
  a : mayA v.2.2.2 = true
  t : turn v.2.1 = v.2.1
structure GE (e : EdgeT) : Prop where
  i : mayI e.1 = true
  l : mayL e.2.1 = true
  a : mayA e.2.2 = true
structure Wf (d : Diag) : Prop where
  sv : SortV d.1
  se : SortE d.2
  nv : d.1.length ≤ 24
  ne : d.2.length ≤ 40
  gv : ∀ v ∈ d.1, GV v
  ge : ∀ e ∈ d.2, GE e
  pd : (darts d.1).Perm (ends d.2)
theorem Wf.rw {d : Diag} (h : Wf d) : Rw d.1 := ⟨h.sv, h.pd.nodup_iff.2 (ends_nodup h.se)⟩
theorem Wf.zero : Wf zS.1 := ⟨List.Pairwise.nil, List.Pairwise.nil, by simp [zS], by simp [zS], by simp [zS], by simp [zS], List.Perm.refl _⟩
theorem GV.re {l : List Vert} (h : ∀ v ∈ l, GV v) (x : ID) {r : List Dart} (hr : turn r = r) : ∀ v ∈ l.map (reR x r), GV v := fun v hv => by
  obtain ⟨w, hw, rfl⟩ := List.mem_map.1 hv
  have g := h w hw
  unfold reR
  split
  · exact ⟨g.i, g.l, g.a, hr⟩
  · exact g
theorem removed_gv {d : Diag} (h : ∀ v ∈ d.1, GV v) (x : Dart) : ∀ v ∈ (removed d x).1, GV v := GV.re h _ (remR_turn _ _)
theorem swapped_gv {d : Diag} (h : ∀ v ∈ d.1, GV v) (x y : Dart) : ∀ v ∈ (swapped d x y).1, GV v := GV.re h _ (swapR_turn _ _ _)
theorem inserted_gv {d : Diag} (h : ∀ v ∈ d.1, GV v) (c : Cor) (y : Dart) : ∀ v ∈ (inserted d c y).1, GV v := GV.re h _ (insR_turn _ _ _)
theorem len_ringed (d : Diag) (x : ID) (r : List Dart) : (ringed d x r).1.length = d.1.length := by unfold ringed; simp
theorem mayI_zero : mayI zI = false := by decide
theorem drop_zE {l : List EdgeT} (h : ∀ e ∈ l, GE e) : dropE l zI = l := by
  unfold dropE; rw [List.filter_eq_self]; intro e he
  have := (h e he).i
  simp; intro k; rw [k, mayI_zero] at this; cases this
theorem drop_zV {l : List Vert} (h : ∀ e ∈ l, GV e) : dropV l zI = l := by
  unfold dropV; rw [List.filter_eq_self]; intro e he
  have := (h e he).i
  simp; intro k; rw [k, mayI_zero] at this; cases this
theorem mayL_zero : mayL e0 = true := by decide
theorem mayA_zero : mayA 0 = true := by decide
theorem findE_none_end {l : List EdgeT} {x : ID} (h : findE l x = none) (s : Int) : (x, s) ∉ ends l := fun k => by
  obtain ⟨e, he, h1, _⟩ := mem_ends.1 k
  unfold findE at h
  rw [List.find?_eq_none] at h
  exact h e he (by simpa using h1)
theorem findE_some_end {l : List EdgeT} {x : ID} (h : (findE l x).isSome = true) {s : Int} (hs : s = 0 ∨ s = 1) : (x, s) ∈ ends l := by
  obtain ⟨e, he⟩ := Option.isSome_iff_exists.1 h
  exact mem_ends.2 ⟨e, findE_mem he, findE_id he, hs⟩
end Go.Vs

set_option linter.unusedVariables false
set_option linter.unusedSimpArgs false
namespace Go.Vs
open Go.Proofs

/-! ### Operations that may be -/
theorem may_id {o : OpT} (h : mayOp o = 0) : mayI (oId o) = true := by
  unfold mayOp at h
  split at h; · cases h
  split at h; · cases h
  split at h; · cases h
  rename_i h3; simpa using h3
theorem may_kind {o : OpT} (h : mayOp o = 0) : 1 ≤ o.1 ∧ o.1 ≤ 8 := by
  unfold mayOp at h
  split at h; · cases h
  split at h; · cases h
  omega
theorem may_split {o : OpT} (h : mayOp o = 0) (hk : o.1 = 5) : mayI (oNew o) = true ∧ mayI (oOther o) = true ∧ 0 ≤ oN o ∧ oN o ≤ 3 := by
  unfold mayOp at h
  split at h; · cases h
  split at h; · cases h
  split at h; · cases h
  split at h; · cases h
  rw [if_neg (show ¬ o.1 = 3 by omega)] at h
  split at h
  · assumption
  · cases h
theorem may_attr {o : OpT} (h : mayOp o = 0) (hk : o.1 = 8) : mayA (oN o) = true := by
  unfold mayOp at h
  split at h; · cases h
  split at h; · cases h
  split at h; · cases h
  split at h; · cases h
  rw [if_neg (show ¬ o.1 = 3 by omega), if_neg (show ¬ o.1 = 5 by omega), if_neg (show ¬ o.1 = 6 by omega)] at h
  split at h
  · assumption
  · cases h
theorem may_label {o : OpT} (h : mayOp o = 0) (hk : o.1 = 7) : mayL (oText o) = true := by
  unfold mayOp at h
  split at h; · cases h
  split at h; · cases h
  split at h; · cases h
  split at h; · cases h
  rw [if_neg (show ¬ o.1 = 3 by omega), if_neg (show ¬ o.1 = 5 by omega), if_neg (show ¬ o.1 = 6 by omega), if_neg (show ¬ o.1 = 8 by omega)] at h
  split at h
  · assumption
  · cases h

/-! ### The row of darts that were taken away -/
def SortG (l : List GoneT) : Prop := l.Pairwise fun a b => ltD a.1 b.1 = true
theorem ordD_le {a b : Dart} : ordD a b ≤ 0 ↔ a = b ∨ ltD a b = true := by
  unfold ordD
  by_cases h : a = b
  · subst h; simp
  · rw [if_neg h]; cases ltD a b <;> simp [h]
theorem mem_addG {q g : GoneT} : ∀ {l : List GoneT}, q ∈ addG g l → q = g ∨ (q ∈ l ∧ q.1 ≠ g.1)
  | [], h => by simp [addG] at h; exact .inl h
  | e :: r, h => by
    unfold addG at h
    split at h
    · rcases List.mem_cons.1 h with h | h
      · exact .inl h
      · unfold fltG at h
        rw [List.mem_filter] at h
        exact .inr ⟨h.1, by simpa using h.2⟩
    · split at h
      · rename_i hne
        rcases List.mem_cons.1 h with rfl | h
        · exact .inr ⟨List.mem_cons_self .., hne⟩
        · rcases mem_addG h with h | ⟨h, h2⟩
          · exact .inl h
          · exact .inr ⟨List.mem_cons_of_mem _ h, h2⟩
      · rcases mem_addG h with h | ⟨h, h2⟩
        · exact .inl h
        · exact .inr ⟨List.mem_cons_of_mem _ h, h2⟩
theorem SortG.add (g : GoneT) : ∀ {l : List GoneT}, SortG l → SortG (addG g l)
  | [], _ => List.pairwise_singleton _ _
  | e :: r, h => by
    have hr : ∀ {q : GoneT}, q ∈ r → ltD e.1 q.1 = true := fun {q} hq => List.rel_of_pairwise_cons h hq
    unfold addG
    split
    · rename_i ho
      refine List.Pairwise.cons (fun q hq => ?_) (h.filter _)
      unfold fltG at hq
      rw [List.mem_filter] at hq
      have hne : q.1 ≠ g.1 := by simpa using hq.2
      have hle : e.1 = q.1 ∨ ltD e.1 q.1 = true := by
        rcases List.mem_cons.1 hq.1 with rfl | hq
        · exact .inl rfl
        · exact .inr (hr hq)
      rcases ordD_le.1 ho with ho | ho
      · rcases hle with k | k
        · exact absurd (ho.trans k).symm hne
        · rw [ho]; exact k
      · rcases hle with k | k
        · rw [← k]; exact ho
        · exact ltD_trans ho k
    · rename_i ho
      have hgt : ltD e.1 g.1 = true := by
        have h1 : ¬ (g.1 = e.1 ∨ ltD g.1 e.1 = true) := fun k => ho (ordD_le.2 k)
        exact ltD_total (by simpa using fun k => h1 (.inr k)) (fun k => h1 (.inl k))
      have hs := SortG.add g (List.Pairwise.of_cons h)
      split
      · refine List.Pairwise.cons (fun q hq => ?_) hs
        rcases mem_addG hq with rfl | ⟨hq, _⟩
        · exact hgt
        · exact hr hq
      · exact hs
theorem findG_cons (e : GoneT) (r : List GoneT) (x : Dart) : findG (e :: r) x = if e.1 = x then some e.2 else findG r x := by
  unfold findG
  rw [List.find?_cons]
  by_cases h : e.1 = x
  · simp [h]
  · simp [h]
theorem fltG_none {g : GoneT} : ∀ {l : List GoneT}, (∀ q ∈ l, q.1 ≠ g.1) → fltG g l = l := fun {l} h => by
  unfold fltG; rw [List.filter_eq_self]; intro q hq; simpa using h q hq
theorem addG_len (g : GoneT) : ∀ {l : List GoneT}, SortG l → (addG g l).length = if (findG l g.1).isSome = true then l.length else l.length + 1
  | [], _ => rfl
  | e :: r, h => by
    have hr : ∀ {q : GoneT}, q ∈ r → ltD e.1 q.1 = true := fun {q} hq => List.rel_of_pairwise_cons h hq
    have ih := addG_len g (List.Pairwise.of_cons h)
    unfold addG
    split
    · rename_i ho
      rcases ordD_le.1 ho with ho | ho
      · have h1 : fltG g (e :: r) = r := by
          have : fltG g (e :: r) = fltG g r := by unfold fltG; rw [List.filter_cons_of_neg (by simp [ho])]
          rw [this]
          exact fltG_none (fun q hq k => by have := hr hq; rw [k, ho, ltD_irrefl] at this; cases this)
        rw [h1, findG_cons, if_pos ho.symm]; simp
      · have h2 : ∀ q ∈ e :: r, q.1 ≠ g.1 := fun q hq k => by
          have : ltD g.1 q.1 = true := by
            rcases List.mem_cons.1 hq with rfl | hq
            · exact ho
            · exact ltD_trans ho (hr hq)
          rw [k, ltD_irrefl] at this; cases this
        have h3 : findG (e :: r) g.1 = none := by
          unfold findG
          have : (List.find? (fun q => decide (q.1 = g.1)) (e :: r)) = none := by
            rw [List.find?_eq_none]; intro q hq; simpa using h2 q hq
          rw [this]; rfl
        rw [fltG_none h2, h3]; simp
    · rename_i ho
      have hne : e.1 ≠ g.1 := fun k => ho (ordD_le.2 (.inl k.symm))
      rw [if_pos hne, findG_cons, if_neg hne]
      simp only [List.length_cons, ih]
      split <;> rfl
theorem addGone_ok {l : List GoneT} (h : SortG l) (hn : l.length ≤ 400) (g : GoneT) : SortG (addGone l g) ∧ (addGone l g).length ≤ 400 := by
  unfold addGone
  split
  · exact ⟨h, hn⟩
  · rename_i hc
    refine ⟨SortG.add g h, ?_⟩
    rw [addG_len g h]
    split
    · exact hn
    · rename_i h1
      by_cases h2 : 400 ≤ l.length
      · exact absurd ⟨by simpa using h1, h2⟩ hc
      · omega

/-! ### States -/
theorem isSome_of {α : Type} {o : Option α} (h : ¬ o.isSome = false) : o.isSome = true := by cases o <;> simp_all
structure WfS (s : StateT) : Prop where
  d : Wf s.1
  g : SortG s.2
  n : s.2.length ≤ 400
theorem WfS.zero : WfS zS := ⟨Wf.zero, List.Pairwise.nil, by simp [zS]⟩
theorem WfS.add {l : List GoneT} (h : SortG l) (hn : l.length ≤ 400) {d : Diag} (hd : Wf d) (g : GoneT) : WfS (d, addGone l g) := ⟨hd, (addGone_ok h hn g).1, (addGone_ok h hn g).2⟩
theorem darts_map {f : Vert → Vert} (hf : ∀ v, (f v).2.1 = v.2.1) (l : List Vert) : darts (l.map f) = darts l := by
  unfold darts; rw [List.flatMap_map]; congr 1; funext v; exact hf v
theorem ends_map {f : EdgeT → EdgeT} (hf : ∀ v, (f v).1 = v.1) (l : List EdgeT) : ends (l.map f) = ends l := by
  unfold ends; rw [List.flatMap_map]; congr 1; funext v; rw [hf]
theorem setE_id (o : OpT) (w : EdgeT) : (setE o w).1 = w.1 := by unfold setE; split <;> (try split) <;> rfl
theorem setV_ring (o : OpT) (w : Vert) : (setV o w).2.1 = w.2.1 := by unfold setV; split <;> (try split) <;> rfl
theorem Wf.not_end {d : Diag} (h : Wf d) {x : ID} (hx : findE d.2 x = none) (s : Int) : (x, s) ∉ darts d.1 := fun k => findE_none_end hx s (h.pd.mem_iff.1 k)
theorem Wf.is_end {d : Diag} (h : Wf d) {x : ID} (hx : (findE d.2 x).isSome = true) {s : Int} (hs : s = 0 ∨ s = 1) : (x, s) ∈ darts d.1 := h.pd.mem_iff.2 (findE_some_end hx hs)
theorem Wf.setR {s : StateT} (h : Wf s.1) {o : OpT} (hm : mayOp o = 0) (hk : 7 ≤ o.1) : Wf (setR s o).1.1 := by
  have hk8 := (may_kind hm).2
  unfold Vs.setR
  split
  · refine ⟨h.sv.map (setV_id o), h.se.map (setE_id o), by simp; exact h.nv, by simp; exact h.ne, fun v hv => ?_, fun e he => ?_, ?_⟩
    · obtain ⟨w, hw, rfl⟩ := List.mem_map.1 hv
      have g := h.gv w hw
      unfold setV
      split
      · split
        · rename_i h7
          exact ⟨g.i, may_label hm h7, g.a, g.t⟩
        · exact ⟨g.i, g.l, may_attr hm (by omega), g.t⟩
      · exact g
    · obtain ⟨w, hw, rfl⟩ := List.mem_map.1 he
      have g := h.ge w hw
      unfold setE
      split
      · split
        · rename_i h7
          exact ⟨g.i, may_label hm h7, g.a⟩
        · exact ⟨g.i, g.l, may_attr hm (by omega)⟩
      · exact g
    · show (darts (s.1.1.map (setV o))).Perm (ends (s.1.2.map (setE o)))
      rw [darts_map (setV_ring o), ends_map (setE_id o)]; exact h.pd
  · exact Wf.zero
theorem cornerR_ok {s : StateT} {c : Cor} (h : (cornerR s c).2.1 = 0) : (vertex s.1 c.1).isSome = true ∧ (cornerR s c).1.1 = c.1 := by
  unfold cornerR at h ⊢
  cases hv : vertex s.1 c.1 with
  | none => rw [hv] at h; cases h
  | some v => exact ⟨rfl, rfl⟩
theorem findV_re {l : List Vert} {x y : ID} (r : List Dart) (h : (findV l x).isSome = true) : (findV (l.map (reR y r)) x).isSome = true := by
  rw [findV_map (reR_id y r)]; simpa using h
theorem Wf.link {d : Diag} (h : Wf d) {x : ID} (hx : mayI x = true) (hn : findE d.2 x = none) (he : ¬ 40 ≤ d.2.length) {a b : Cor} (ha : (findV d.1 a.1).isSome = true) (hb : (findV d.1 b.1).isSome = true) :
    Wf (inserted (inserted (d.1, addE (x, (e0, 0)) d.2) a (x, 0)) b (x, 1)) := by
  have hrw : Rw ((d.1, addE (x, (e0, 0)) d.2) : Diag).1 := h.rw
  obtain ⟨va, hva⟩ := Option.isSome_iff_exists.1 ha
  have h0 := h.not_end hn 0
  have h1 := h.not_end hn 1
  obtain ⟨p1, q1⟩ := inserted_perm (c := a) (x := (x, 0)) hrw hva h0
  obtain ⟨vb, hvb⟩ := Option.isSome_iff_exists.1 (findV_re (x := b.1) (y := a.1) (insR (ringAt (d.1, addE (x, (e0, 0)) d.2) a.1) a.2 (x, 0)) hb)
  have h1' : (x, 1) ∉ darts (inserted (d.1, addE (x, (e0, 0)) d.2) a (x, 0)).1 := fun k => by
    rcases List.mem_cons.1 (p1.mem_iff.1 k) with k | k
    · cases k
    · exact h1 k
  obtain ⟨p2, q2⟩ := inserted_perm (c := b) (x := (x, 1)) q1 hvb h1'
  refine ⟨q2.s, sort_addE (x, (e0, 0)) h.se hn, ?_, ?_, inserted_gv (inserted_gv h.gv _ _) _ _, fun e hem => ?_, ?_⟩
  · unfold inserted; rw [len_ringed, len_ringed]; exact h.nv
  · show (addE (x, (e0, 0)) d.2).length ≤ 40
    rw [addE_length]; omega
  · rcases mem_addE.1 (show e ∈ addE (x, (e0, 0)) d.2 from hem) with rfl | hem
    · exact ⟨hx, mayL_zero, mayA_zero⟩
    · exact h.ge e hem
  · show (darts _).Perm (ends (addE (x, (e0, 0)) d.2))
    refine (p2.trans (List.Perm.cons _ p1)).trans (List.Perm.trans ?_ (ends_addE (x, (e0, 0)) d.2).symm)
    exact (List.Perm.swap _ _ _).trans (List.Perm.cons _ (List.Perm.cons _ h.pd))
theorem Wf.cut {d : Diag} (h : Wf d) {x : ID} (hx : (findE d.2 x).isSome = true) : Wf (without (removed (removed d (x, 0)) (x, 1)) zI x) := by
  have h0 := h.is_end hx (s := 0) (.inl rfl)
  have h1 := h.is_end hx (s := 1) (.inr rfl)
  obtain ⟨p1, q1⟩ := removed_perm h.rw h0
  have h1' : (x, 1) ∈ darts (removed d (x, 0)).1 := by
    rcases List.mem_cons.1 (p1.mem_iff.1 h1) with k | k
    · cases k
    · exact k
  obtain ⟨p2, q2⟩ := removed_perm q1 h1'
  have hgv := removed_gv (removed_gv h.gv (x, 0)) (x, 1)
  have hdz : (without (removed (removed d (x, 0)) (x, 1)) zI x).1 = (removed (removed d (x, 0)) (x, 1)).1 := drop_zV hgv
  refine ⟨by rw [hdz]; exact q2.s, sort_dropE h.se, ?_, ?_, by rw [hdz]; exact hgv, fun e he => h.ge e ?_, ?_⟩
  · rw [hdz]; unfold removed; rw [len_ringed, len_ringed]; exact h.nv
  · exact Nat.le_trans (List.length_filter_le _ _) h.ne
  · exact (List.mem_filter.1 (show e ∈ d.2.filter fun w => decide (w.1 ≠ x) from he)).1
  · rw [hdz]
    show (darts (removed (removed d (x, 0)) (x, 1)).1).Perm (ends (dropE d.2 x))
    have p3 : ((x, 0) :: (x, 1) :: darts (removed (removed d (x, 0)) (x, 1)).1).Perm ((x, 0) :: (x, 1) :: ends (dropE d.2 x)) :=
      ((p1.trans (List.Perm.cons _ p2)).symm.trans h.pd).trans (ends_dropE h.se hx)
    exact p3.cons_inv.cons_inv
theorem otherD_in {x : Dart} (h : x.2 = 0 ∨ x.2 = 1) : (otherD x).1 = x.1 ∧ ((x.2 = 0 ∧ (otherD x).2 = 1) ∨ (x.2 = 1 ∧ (otherD x).2 = 0)) := by
  refine ⟨rfl, ?_⟩
  unfold otherD
  rcases h with h | h
  · exact .inl ⟨h, by rw [h]; rfl⟩
  · exact .inr ⟨h, by rw [h]; rfl⟩
theorem two_perm {x : Dart} (h : x.2 = 0 ∨ x.2 = 1) (l : List Dart) : (x :: otherD x :: l).Perm ((x.1, 0) :: (x.1, 1) :: l) := by
  obtain ⟨h1, h2⟩ := otherD_in h
  have e : x = (x.1, x.2) := rfl
  have e2 : otherD x = (x.1, (otherD x).2) := rfl
  rcases h2 with ⟨ha, hb⟩ | ⟨ha, hb⟩
  · rw [ha] at e; rw [hb] at e2; rw [e2, e]
  · rw [ha] at e; rw [hb] at e2; rw [e2, e]; exact List.Perm.swap _ _ _
theorem side_val {n : Int} (h0 : 0 ≤ n) (h3 : n ≤ 3) : (IntKind.wrap .i64 (1 - Int.tmod n 2) = 0 ∨ IntKind.wrap .i64 (1 - Int.tmod n 2) = 1) ∧ (IntKind.wrap .i64 (Int.tdiv n 2) = 0 ∨ IntKind.wrap .i64 (Int.tdiv n 2) = 1) := by
  have : n = 0 ∨ n = 1 ∨ n = 2 ∨ n = 3 := by omega
  rcases this with rfl | rfl | rfl | rfl <;> exact ⟨by decide, by decide⟩
theorem Wf.split {d : Diag} (h : Wf d) {m k : Dart} {v : ID} (hv : mayI v = true) (hk : mayI k.1 = true) (hm2 : m.2 = 0 ∨ m.2 = 1) (hk2 : k.2 = 0 ∨ k.2 = 1) (hm : (findE d.2 m.1).isSome = true) (hnv : findV d.1 v = none) (hnk : findE d.2 k.1 = none)
    (hlv : ¬ 24 ≤ d.1.length) (hle : ¬ 40 ≤ d.2.length) : Wf (addV (v, (turn [m, k], (e0, 0))) (swapped d m (otherD k)).1, addE (k.1, (e0, 0)) (swapped d m (otherD k)).2) := by
  have hmd : m ∈ darts d.1 := h.is_end hm hm2
  have hkd : otherD k ∉ darts d.1 := h.not_end hnk _
  obtain ⟨p1, q1⟩ := swapped_perm h.rw hmd hkd
  have hnv' : findV (swapped d m (otherD k)).1 v = none := by
    unfold swapped Vs.ringed
    rw [findV_map (reR_id _ _), hnv]; rfl
  refine ⟨sort_addV (v, (turn [m, k], (e0, 0))) q1.s hnv', sort_addE (k.1, (e0, 0)) h.se hnk, ?_, ?_, fun w hw => ?_, fun e he => ?_, ?_⟩
  · show (addV _ (swapped d m (otherD k)).1).length ≤ 24
    rw [addV_length]; unfold swapped; rw [len_ringed]; omega
  · show (addE _ d.2).length ≤ 40
    rw [addE_length]; omega
  · rcases mem_addV.1 hw with rfl | hw
    · exact ⟨hv, mayL_zero, mayA_zero, turn_turn _⟩
    · exact swapped_gv h.gv _ _ w hw
  · rcases mem_addE.1 (show e ∈ addE (k.1, (e0, 0)) d.2 from he) with rfl | he
    · exact ⟨hk, mayL_zero, mayA_zero⟩
    · exact h.ge e he
  · show (darts (addV _ _)).Perm (ends (addE (k.1, (e0, 0)) d.2))
    refine (darts_addV _ _).trans (List.Perm.trans ?_ (ends_addE (k.1, (e0, 0)) d.2).symm)
    refine (List.Perm.append_right _ (turn_perm [m, k])).trans ?_
    show (m :: k :: darts (swapped d m (otherD k)).1).Perm _
    refine (List.Perm.swap k m _).trans ((List.Perm.cons k p1.symm).trans ?_)
    refine (two_perm hk2 _).trans ?_
    exact List.Perm.cons _ (List.Perm.cons _ h.pd)
theorem Wf.dropV0 {d : Diag} (h : Wf d) {v : Vert} (hv : v ∈ d.1) (hr : v.2.1 = []) : Wf (without d v.1 zI) := by
  obtain ⟨a, b, h1, _, h2, _⟩ := splitV h.sv hv
  refine ⟨sort_dropV h.sv, ?_, Nat.le_trans (List.length_filter_le _ _) h.nv, Nat.le_trans (List.length_filter_le _ _) h.ne, fun w hw => h.gv w ?_, fun e he => h.ge e ?_, ?_⟩
  · exact sort_dropE h.se
  · exact (List.mem_filter.1 (show w ∈ d.1.filter fun w => decide (w.1 ≠ v.1) from hw)).1
  · exact (List.mem_filter.1 (show e ∈ d.2.filter fun w => decide (w.1 ≠ zI) from he)).1
  · show (darts (dropV d.1 v.1)).Perm (ends (dropE d.2 zI))
    rw [h2, drop_zE h.ge]
    have p := darts_mid a b v
    rw [← h1, hr, List.nil_append] at p
    exact p.symm.trans h.pd
theorem Wf.smooth {d : Diag} (h : Wf d) {v : Vert} {a b : Dart} (hv : v ∈ d.1) (hr : v.2.1.Perm [a, b]) (hab : a.1 ≠ b.1) : Wf (without (swapped (without d v.1 zI) (otherD b) a) zI b.1) := by
  obtain ⟨p, q, h1, _, h2, _⟩ := splitV h.sv hv
  have pd : (darts d.1).Perm (a :: b :: darts (p ++ q)) := by
    have := (darts_mid p q v).trans (List.Perm.append_right _ hr)
    rw [← h1] at this; exact this
  have hd1 : without d v.1 zI = (p ++ q, d.2) := by unfold without; rw [h2, drop_zE h.ge]
  have hnd := pd.nodup_iff.1 h.rw.n
  have hbm : b ∈ ends d.2 := h.pd.mem_iff.1 (pd.mem_iff.2 (by simp))
  obtain ⟨e, he, he1, hb2⟩ := mem_ends.1 hbm
  have hfe : (findE d.2 b.1).isSome = true := by
    unfold findE; rw [List.find?_isSome]; exact ⟨e, he, by simpa using he1⟩
  obtain ⟨_, ho⟩ := otherD_in hb2
  have hfar : otherD b ∈ darts (p ++ q) := by
    have h3 : otherD b ∈ darts d.1 := h.is_end (s := (otherD b).2) hfe (by rcases ho with ⟨_, k⟩ | ⟨_, k⟩ <;> omega)
    rcases List.mem_cons.1 (pd.mem_iff.1 h3) with k | k
    · exact absurd (congrArg Prod.fst k) (fun k => hab k.symm)
    rcases List.mem_cons.1 k with k | k
    · have := congrArg Prod.snd k; omega
    · exact k
  have hrw1 : Rw (p ++ q) := by
    refine ⟨?_, (List.nodup_cons.1 (List.nodup_cons.1 hnd).2).2⟩
    rw [← h2]; exact sort_dropV h.sv
  have ha : a ∉ darts (p ++ q) := fun k => (List.nodup_cons.1 hnd).1 (List.mem_cons_of_mem _ k)
  rw [hd1]
  obtain ⟨p1, q1⟩ := swapped_perm (d := (p ++ q, d.2)) hrw1 hfar ha
  have hgv : ∀ w ∈ (swapped (p ++ q, d.2) (otherD b) a).1, GV w := by
    refine swapped_gv (d := (p ++ q, d.2)) (fun w hw => h.gv w ?_) _ _
    rw [h1]
    rcases List.mem_append.1 hw with k | k
    · exact List.mem_append_left _ k
    · exact List.mem_append_right _ (List.mem_cons_of_mem _ k)
  have hdz : (without (swapped (p ++ q, d.2) (otherD b) a) zI b.1).1 = (swapped (p ++ q, d.2) (otherD b) a).1 := drop_zV hgv
  refine ⟨by rw [hdz]; exact q1.s, sort_dropE h.se, ?_, Nat.le_trans (List.length_filter_le _ _) h.ne, by rw [hdz]; exact hgv, fun f hf => h.ge f ?_, ?_⟩
  · rw [hdz]; unfold swapped; rw [len_ringed]
    have := h.nv
    rw [h1] at this
    simp at this ⊢; omega
  · exact (List.mem_filter.1 (show f ∈ d.2.filter fun w => decide (w.1 ≠ b.1) from hf)).1
  · rw [hdz]
    show (darts (swapped (p ++ q, d.2) (otherD b) a).1).Perm (ends (dropE d.2 b.1))
    have p3 : (b :: otherD b :: darts (swapped (p ++ q, d.2) (otherD b) a).1).Perm (b :: otherD b :: ends (dropE d.2 b.1)) := by
      refine List.Perm.trans (List.Perm.cons b p1.symm) ?_
      refine (List.Perm.swap a b _).trans (pd.symm.trans (h.pd.trans ?_))
      exact (ends_dropE h.se hfe).trans (two_perm hb2 _).symm
    exact p3.cons_inv.cons_inv

theorem WfS.one {s : StateT} (h : WfS s) (o : OpT) : WfS (oneR s o).1 := by
  unfold oneR
  split
  · exact WfS.zero
  rename_i hm
  have hm : mayOp o = 0 := Classical.byContradiction fun k => hm k
  have hid := may_id hm
  split
  · unfold addVR
    split; · exact WfS.zero
    split; · exact WfS.zero
    rename_i h1 h2
    have hn : findV s.1.1 (oId o) = none := by simpa [vertex] using h1
    refine ⟨⟨sort_addV _ h.d.sv hn, h.d.se, by show (addV _ s.1.1).length ≤ 24; rw [addV_length]; omega, h.d.ne, fun w hw => ?_, h.d.ge, ?_⟩, h.g, h.n⟩
    · rcases mem_addV.1 hw with rfl | hw
      · exact ⟨hid, mayL_zero, mayA_zero, rfl⟩
      · exact h.d.gv w hw
    · exact (darts_addV _ _).trans h.d.pd
  split
  · unfold remVR
    cases hv : vertex s.1 (oId o) with
    | none => exact WfS.zero
    | some v =>
      simp only
      split
      · exact WfS.zero
      · rename_i hr
        have := h.d.dropV0 (findV_mem hv) (by simpa using hr)
        rw [findV_id hv] at this
        exact ⟨this, h.g, h.n⟩
  split
  · unfold linkR
    split; · exact WfS.zero
    split; · exact WfS.zero
    split; · exact WfS.zero
    split; · exact WfS.zero
    split; · exact WfS.zero
    rename_i h1 h2 h3 h4 h5
    have hn : findE s.1.2 (oId o) = none := by simpa [edge] using h1
    obtain ⟨ca, ca2⟩ := cornerR_ok (s := s) (c := oA o) (Classical.byContradiction fun k => h3 k)
    obtain ⟨cb, cb2⟩ := cornerR_ok (s := s) (c := oB o) (Classical.byContradiction fun k => h4 k)
    refine ⟨?_, h.g, h.n⟩
    unfold linkD
    refine h.d.link hid hn h2 (by rw [ca2]; exact ca) ?_
    split
    · exact cb
    · rw [cb2]; exact cb
  split
  · unfold cutR
    split; · exact WfS.zero
    rename_i h1
    have h2 := addGone_ok h.g h.n ((oId o, 0), aheadD s.1 (oId o, 0))
    exact WfS.add h2.1 h2.2 (h.d.cut (isSome_of h1)) _
  split
  · rename_i hk
    unfold splitR
    split; · exact WfS.zero
    split; · exact WfS.zero
    split; · exact WfS.zero
    split; · exact WfS.zero
    split; · exact WfS.zero
    rename_i h1 h2 h3 h4 h5
    obtain ⟨m1, m2, m3, m4⟩ := may_split hm hk
    obtain ⟨s1, s2⟩ := side_val m3 m4
    refine ⟨?_, h.g, h.n⟩
    exact h.d.split (m := spM o) (k := spK o) m1 m2 s1 s2 (isSome_of h1) (by simpa [vertex] using h2) (by simpa [edge, spK] using h3) h4 h5
  split
  · unfold smoothR
    split
    · exact WfS.zero
    · rename_i v hv
      split
      · rename_i r0 r1 hr
        have hvm := findV_mem hv
        have hvi := findV_id hv
        have key : ∀ a b : Dart, v.2.1.Perm [a, b] → a.1 ≠ b.1 → WfS (smD s o a b, smG s.2 a b) := fun a b hp hab => by
          have h2 := addGone_ok h.g h.n ((b.1, 0), smTo a b 0)
          have := h.d.smooth hvm hp hab
          rw [hvi] at this
          exact WfS.add h2.1 h2.2 this _
        unfold smooth2
        split; · exact WfS.zero
        rename_i hne
        split
        · exact key r1 r0 (by rw [hr]; exact List.Perm.swap _ _ _) (fun k => hne k.symm)
        split
        · exact key r0 r1 (by rw [hr]) hne
        · exact WfS.zero
      · exact WfS.zero
  · rename_i k1 k2 k3 k4 k5 k6
    have hk := may_kind hm
    have := h.d.setR hm (by omega)
    refine ⟨this, ?_, ?_⟩
    · unfold setR; split
      · exact h.g
      · exact List.Pairwise.nil
    · unfold setR; split
      · exact h.n
      · simp [zS]
theorem WfS.go : ∀ (l : List OpT) {s : StateT}, WfS s → WfS (goR l s).1
  | [], s, h => h
  | o :: r, s, h => by
    unfold goR
    split
    · exact WfS.zero
    · exact WfS.go r (h.one o)
theorem WfS.apply {s : StateT} (h : WfS s) (l : List OpT) : WfS (applyR s l).1 := by
  unfold applyR
  split
  · exact WfS.zero
  · exact WfS.go l h
theorem WfS.try {s : StateT} (h : WfS s) (l : List OpT) : WfS (tryR s l) := by
  unfold tryR
  split
  · exact h
  · exact h.apply l
theorem WfS.reach : ∀ (m : Nat) (l : List (List OpT)) {s : StateT}, WfS s → WfS (reachR m l s)
  | 0, _, s, h => by simpa [reachR] using h
  | m + 1, [], s, h => h
  | m + 1, l :: r, s, h => by rw [reachR]; exact WfS.reach m r (h.try _)
theorem WfS.reached (l : List (List OpT)) : WfS (reachedR l) := WfS.reach 30 l WfS.zero
end Go.Vs
