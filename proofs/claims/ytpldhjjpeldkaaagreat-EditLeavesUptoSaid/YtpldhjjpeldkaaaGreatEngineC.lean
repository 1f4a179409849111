/- The value semantics is sound, at calls and in regions. -/
import Derived.Test.YtpldhjjpeldkaaaGreatEngineB
import Derived.Maps.RangeRun
import Derived.ChangeMaps

set_option linter.unusedSimpArgs false
set_option linter.unusedVariables false
namespace Go.Vs
variable {P : Program} {Z Z' : Nat → Prop} {ψ ψ' : Nat → Value} {h h' : Hp} {w w' : World} {B0 : Nat} {O : Nat → Prop} {N : Nat → Prop}

theorem enc_length : ∀ (k : K) (x : k.T), (enc k x).length = k.sz
  | .int _, _ => rfl
  | .bool, _ => rfl
  | .str, _ => rfl
  | .sl _, _ => rfl
  | .mp _ _, _ => rfl
  | .pair a b, x => by simp only [enc, List.length_append, K.sz]; rw [enc_length a, enc_length b]
  | .one k, x => by simp only [enc, K.sz]; exact enc_length k x
theorem enc_view (hh : Heap) : ∀ (k : K) (x : k.T), (enc k x).map (view1 hh) = enc k x
  | .int _, _ => rfl
  | .bool, _ => rfl
  | .str, _ => rfl
  | .sl _, _ => rfl
  | .mp _ _, _ => rfl
  | .pair a b, x => by simp only [enc, List.map_append]; rw [enc_view hh a, enc_view hh b]
  | .one k, x => by simp only [enc]; exact enc_view hh k x
theorem enc_no_osl : ∀ (k : K) (x : k.T) (id : Nat), AV.osl id ∉ enc k x
  | .int _, _, _ => by simp [enc]
  | .bool, _, _ => by simp [enc]
  | .str, _, _ => by simp [enc]
  | .sl _, _, _ => by simp [enc]
  | .mp _ _, _, _ => by simp [enc]
  | .pair a b, x, id => by
    simp only [enc, List.mem_append]
    rintro (h | h)
    · exact enc_no_osl a _ id h
    · exact enc_no_osl b _ id h
  | .one k, x, id => by simp only [enc]; exact enc_no_osl k x id

theorem ownAt_out {hh : Heap} {ok : OK} {n : Nat} {xs : ok.T} (hg : hh.get n = some (.own ok xs)) : ownAt hh ok (.osl n) = some xs := by
  simp [ownAt, hg]

theorem decCKs_out {hh : Heap} : ∀ (cks : List CK) (n : Nat) (x : CTs cks), (∀ e ∈ encRows cks n x, hh.get e.1 = some e.2) → decCKs cks hh (encCells cks n x) = some x
  | [], n, x, _ => rfl
  | .val k :: r, n, x, hg => by
    have h1 : (encCells (.val k :: r) n x).take k.sz = enc k x.1 := by simp only [encCells]; rw [← enc_length k x.1, List.take_left]
    have h2 : (encCells (.val k :: r) n x).drop k.sz = encCells r (n + 1) x.2 := by simp only [encCells]; rw [← enc_length k x.1, List.drop_left]
    have e : decCKs (.val k :: r) hh (encCells (.val k :: r) n x) = (match decOne k (((encCells (.val k :: r) n x).take k.sz).map (view1 hh)), decCKs r hh ((encCells (.val k :: r) n x).drop k.sz) with
      | some x, some y => some ((x, y) : k.T × CTs r)
      | _, _ => none) := by generalize encCells (.val k :: r) n x = l; cases l <;> rfl
    have h4 : decOne k (((encCells (.val k :: r) n x).take k.sz).map (view1 hh)) = some x.1 := by
      rw [h1]; exact (congrArg (decOne k) (enc_view hh k x.1)).trans (decOne_enc k x.1)
    have h5 : decCKs r hh ((encCells (.val k :: r) n x).drop k.sz) = some x.2 := by
      rw [h2]; exact decCKs_out r (n + 1) x.2 hg
    rw [e]
    generalize decOne k (((encCells (.val k :: r) n x).take k.sz).map (view1 hh)) = o1 at h4 ⊢
    generalize decCKs r hh ((encCells (.val k :: r) n x).drop k.sz) = o2 at h5 ⊢
    subst h4; subst h5; rfl
  | .own ok :: r, n, x, hg => by
    simp only [encRows] at hg
    have h1 := ownAt_out (hg _ List.mem_cons_self)
    have h2 := decCKs_out r (n + 1) x.2 (fun e he => hg e (List.mem_cons_of_mem _ he))
    have e : decCKs (.own ok :: r) hh (encCells (.own ok :: r) n x) = (match ownAt hh ok (.osl n), decCKs r hh (encCells r (n + 1) x.2) with
      | some x, some y => some ((x, y) : ok.T × CTs r)
      | _, _ => none) := rfl
    rw [e, h1, h2]
    rfl
theorem objAt_out {hh : Heap} (b : BK) {i n : Nat} {x : b.T} (hg : ∀ e ∈ objOut b i n x, hh.get e.1 = some e.2) : objAt b hh i = some x := by
  cases b with
  | box ty c =>
    simp only [objOut] at hg
    have h1 : boxAt hh i ty = some (encCells c n x) := by
      unfold boxAt
      rw [hg _ List.mem_cons_self]
      simp
    simp only [objAt, h1]
    exact decCKs_out (hh := hh) c n x (fun e he => hg e (List.mem_cons_of_mem _ he))
  | own ok => exact ownAt_out (hg _ (by simp only [objOut]; exact List.mem_cons_self))
theorem boxesIn_out {hh : Heap} : ∀ (bs : List BK) (is : List Nat) (n : Nat) (x : BTs bs), is.length = bs.length → (∀ e ∈ boxesOut bs is n x, hh.get e.1 = some e.2) → boxesIn bs hh is = some x
  | [], [], n, x, _, _ => rfl
  | [], _ :: _, n, x, hl, _ => by simp at hl
  | _ :: _, [], n, x, hl, _ => by simp at hl
  | b :: r, i :: is, n, x, hl, hg => by
    simp only [boxesOut] at hg
    have h2 := objAt_out b (fun e he => hg e (List.mem_append_left _ he))
    have h3 := boxesIn_out r is (n + 16) x.2 (by simpa using hl) (fun e he => hg e (List.mem_append_right _ he))
    have e : boxesIn (b :: r) hh (i :: is) = (match objAt b hh i, boxesIn r hh is with
        | some x, some y => some ((x, y) : b.T × BTs r)
        | _, _ => none) := rfl
    rw [e, h2, h3]
    rfl
theorem get_nodup {i : Nat} {o : Ob} : ∀ {hh : Heap}, nodupB (hh.map (·.1)) = true → (i, o) ∈ hh → hh.get i = some o
  | [], _, h => by cases h
  | (j, o') :: r, hn, h => by
    obtain ⟨h1, h2⟩ := nodupB_cons hn
    simp only [Heap.get]
    rcases List.mem_cons.1 h with e | h
    · cases e; simp
    · rw [if_neg, get_nodup h2 h]
      rintro rfl
      exact h1 (List.mem_map.2 ⟨_, h, rfl⟩)
theorem frz_out {hh : Heap} : ∀ (cks : List CK) (n : Nat) (x : CTs cks) (id : Nat), AV.osl id ∉ ckFrz cks (encCells cks n x)
  | [], n, x, id => by simp [encCells, ckFrz]
  | .val k :: r, n, x, id => by
    have h1 : (encCells (.val k :: r) n x).take k.sz = enc k x.1 := by simp only [encCells]; rw [← enc_length k x.1, List.take_left]
    have h2 : (encCells (.val k :: r) n x).drop k.sz = encCells r (n + 1) x.2 := by simp only [encCells]; rw [← enc_length k x.1, List.drop_left]
    have e : ckFrz (.val k :: r) (encCells (.val k :: r) n x) = (encCells (.val k :: r) n x).take k.sz ++ ckFrz r ((encCells (.val k :: r) n x).drop k.sz) := by generalize encCells (.val k :: r) n x = l; cases l <;> rfl
    rw [e, h1, h2, List.mem_append]
    rintro (h | h)
    · exact enc_no_osl k x.1 id h
    · exact frz_out (hh := hh) r (n + 1) x.2 id h
  | .own ok :: r, n, x, id => by simp only [encCells, ckFrz]; exact frz_out (hh := hh) r (n + 1) x.2 id
theorem boxFrz_out {hh : Heap} : ∀ (bs : List BK) (is : List Nat) (n : Nat) (x : BTs bs) (id : Nat), (∀ e ∈ boxesOut bs is n x, hh.get e.1 = some e.2) → AV.osl id ∉ boxFrz bs hh is
  | [], is, n, x, id, _ => by cases is <;> simp [boxFrz]
  | _ :: _, [], n, x, id, _ => by simp [boxFrz]
  | b :: r, i :: is, n, x, id, hg => by
    simp only [boxesOut] at hg
    simp only [boxFrz, List.mem_append]
    rintro (h | h)
    · cases b with
      | box ty c =>
        simp only [objFrz] at h
        rw [hg (i, .box ty (encCells c n x.1)) (List.mem_append_left _ (by simp only [objOut]; exact List.mem_cons_self))] at h
        exact frz_out (hh := hh) c n x.1 id h
      | own ok => simp [objFrz] at h
    · exact boxFrz_out r is (n + 16) x.2 id (fun e he => hg e (List.mem_append_right _ he)) h

/-- Pointers among the arguments. -/
theorem refs_rep2 {hh : Heap} : ∀ (cap : List AV) (is is' : List Nat) (vs : List Value), refIds cap = some is → is'.length = is.length → (∀ p ∈ is.zip is', hh.get p.1 ≠ none ∧ (h' p.2 ≠ none → ψ' p.2 = ψ p.1)) →
    RepL Z ψ hh.get w cap vs → RepL Z' ψ' h' w (is'.map fun i => .ref i 0 0 0) vs
  | [], is, is', vs, h1, hl, _, hr => by
    simp only [refIds] at h1
    cases h1
    cases is' with
    | nil => simpa only [List.map_nil, RepL] using hr
    | cons c r => simp at hl
  | v :: cap, is, is', vs, h1, hl, hp, hr => by
    simp only [refIds] at h1
    split at h1
    · rename_i i is1 h3 h4
      cases h1
      cases is' with
      | nil => simp at hl
      | cons c r =>
        simp only [List.zip_cons_cons] at hp
        simp only [List.map_cons, RepL] at hr ⊢
        obtain ⟨u, us, rfl, h7, h8⟩ := hr
        obtain ⟨sz, rfl⟩ := refId_spec h3
        obtain ⟨h5, h6⟩ := hp _ List.mem_cons_self
        exact ⟨u, us, rfl, ref_rep h7 h5 h6, refs_rep2 cap is1 r us h4 (by simpa using hl) (fun p h => hp p (List.mem_cons_of_mem _ h)) h8⟩
    · cases h1
theorem refIds_length : ∀ (cap : List AV) (is : List Nat), refIds cap = some is → is.length = cap.length
  | [], is, h => by simp only [refIds] at h; cases h; rfl
  | v :: cap, is, h => by
    simp only [refIds] at h
    split at h
    · rename_i i is1 h3 h4
      cases h
      simp [refIds_length cap is1 h4]
    · cases h

theorem oslIds_length : ∀ (cs : List AV) (is : List Nat), oslIds cs = some is → is.length = cs.length
  | [], is, h => by simp only [oslIds] at h; cases h; rfl
  | c :: r, is, h => by
    cases c <;> simp only [oslIds] at h <;> first | (cases h; done) | skip
    split at h
    · rename_i is' h1
      cases h
      simp [oslIds_length r is' h1]
    · cases h
theorem osls_rep2 {hh : Heap} : ∀ (cs : List AV) (is ids' : List Nat) (vs : List Value), oslIds cs = some is → ids'.length = is.length → (∀ p ∈ is.zip ids', hh.get p.1 ≠ none ∧ (h' p.2 ≠ none → ψ' p.2 = ψ p.1)) →
    RepL Z ψ hh.get w cs vs → RepL Z' ψ' h' w (ids'.map .osl) vs
  | [], is, ids', vs, h, hl, hp, hr => by
    simp only [oslIds] at h
    cases h
    have : ids' = [] := List.eq_nil_of_length_eq_zero hl
    subst this
    simpa only [List.map_nil, RepL] using hr
  | c :: r, is, ids', vs, h, hl, hp, hr => by
    cases c <;> simp only [oslIds] at h <;> first | (cases h; done) | skip
    rename_i i
    split at h
    · rename_i is' h1
      cases h
      cases ids' with
      | nil => simp at hl
      | cons i' ids' =>
        simp only [List.zip_cons_cons] at hp
        obtain ⟨h5, h6⟩ := hp _ List.mem_cons_self
        simp only [List.map_cons, RepL] at hr ⊢
        obtain ⟨u, us, rfl, h3, h4⟩ := hr
        refine ⟨u, us, rfl, ?_, osls_rep2 r is' ids' us h1 (by simpa using hl) (fun p hp' => hp p (List.mem_cons_of_mem _ hp')) h4⟩
        simp only [Rep] at h3 ⊢
        exact ⟨h3.1, fun hn => (h3.2 h5).trans (h6 hn).symm⟩
    · cases h
theorem args_rep2 {hh : Heap} (g : Good Z ψ hh.get w B0 O) (hz : ∀ b, Z b → Z' b) : ∀ (ps : List PK) (ids ids' : List Nat) (s : Nat) (vs : List AV) (us : List Value) (x : VTs (valsOf ps)), ids'.length = ids.length → argIds ps vs = some ids → argVals ps hh vs = some x →
    (∀ id b, AV.osl id ∈ argCells ps vs → hh.get id ≠ none → ob (ψ id) = some b → Z' b) → (∀ p ∈ ids.zip ids', hh.get p.1 ≠ none ∧ (h' p.2 ≠ none → ψ' p.2 = ψ p.1)) → RepL Z ψ hh.get w vs us → RepL Z' ψ' h' w ((entryVals ps ids' s x).map (·.2)) us
  | [], ids, ids', s, vs, us, x, hl, hi, hv, hf, hp, hr => by
    cases vs with
    | nil => simpa only [entryVals, List.map_nil, RepL] using hr
    | cons a r => simp [argIds] at hi
  | .val k :: ps, ids, ids', s, vs, us, x, hl, hi, hv, hf, hp, hr => by
    cases vs with
    | nil => simp [argIds] at hi
    | cons a r =>
      simp only [argIds] at hi
      simp only [RepL] at hr
      obtain ⟨u, us', rfl, h3, h4⟩ := hr
      obtain ⟨h1, h2⟩ := argVals_val hv
      simp only [argCells] at hf
      simp only [entryVals, List.map_cons, RepL]
      exact ⟨u, us', rfl, ofOne_rep g hz (fun id b hid => hf id b (List.mem_append_left _ hid)) h1 h3, args_rep2 g hz ps ids ids' (s + 1) r us' x.2 hl hi h2 (fun id b hid => hf id b (List.mem_append_right _ hid)) hp h4⟩
  | .ref :: ps, ids, ids', s, vs, us, x, hl, hi, hv, hf, hp, hr => by
    cases vs with
    | nil => simp [argIds] at hi
    | cons a r =>
      simp only [argIds] at hi
      split at hi
      · rename_i i is h1 h2
        cases hi
        simp only [RepL] at hr
        obtain ⟨u, us', rfl, h3, h4⟩ := hr
        cases ids' with
        | nil => simp at hl
        | cons i' is' =>
          simp only [List.zip_cons_cons] at hp
          obtain ⟨sz, rfl⟩ := refId_spec h1
          obtain ⟨h5, h6⟩ := hp _ List.mem_cons_self
          simp only [entryVals, List.map_cons, RepL]
          exact ⟨u, us', rfl, ref_rep h3 h5 h6, args_rep2 g hz ps is is' (s + 1) r us' x (by simpa using hl) h2 hv hf (fun p h => hp p (List.mem_cons_of_mem _ h)) h4⟩
      · cases hi
  | .own :: ps, ids, ids', s, vs, us, x, hl, hi, hv, hf, hp, hr => by
    cases vs with
    | nil => simp [argIds] at hi
    | cons a r =>
      cases a <;> simp only [argIds] at hi <;> first | (cases hi; done) | skip
      rename_i i
      split at hi
      · rename_i is h2
        cases hi
        simp only [RepL] at hr
        obtain ⟨u, us', rfl, h3, h4⟩ := hr
        cases ids' with
        | nil => simp at hl
        | cons i' is' =>
          simp only [List.zip_cons_cons] at hp
          obtain ⟨h5, h6⟩ := hp _ List.mem_cons_self
          simp only [entryVals, List.map_cons, RepL]
          refine ⟨u, us', rfl, ?_, args_rep2 g hz ps is is' (s + 1) r us' x (by simpa using hl) h2 hv hf (fun p h => hp p (List.mem_cons_of_mem _ h)) h4⟩
          simp only [Rep] at h3 ⊢
          exact ⟨h3.1, fun hn => (h3.2 h5).trans (h6 hn).symm⟩
      · cases hi
  | .clo f m :: ps, ids, ids', s, vs, us, x, hl, hi, hv, hf, hp, hr => by
    cases vs with
    | nil => simp [argIds] at hi
    | cons a r =>
      cases a <;> simp only [argIds] at hi <;> first | (cases hi; done) | skip
      rename_i f' cap
      split at hi
      · rename_i hc
        obtain ⟨rfl, hcl⟩ := hc
        split at hi
        · rename_i a1 b1 h1 h2
          cases hi
          simp only [RepL] at hr
          obtain ⟨u, us', rfl, h3, h4⟩ := hr
          have h5 := refIds_length cap a1 h1
          have hz1 : (a1 ++ b1).zip ids' = a1.zip (ids'.take m) ++ b1.zip (ids'.drop m) := by
            conv => lhs; rw [← List.take_append_drop m ids']
            rw [List.zip_append]
            rw [List.length_take, Nat.min_eq_left]
            · omega
            · rw [hl, List.length_append]; omega
          rw [hz1] at hp
          simp only [entryVals, List.map_cons, RepL]
          refine ⟨u, us', rfl, ?_, args_rep2 g hz ps b1 (ids'.drop m) (s + 1) r us' x (by rw [List.length_drop, hl, List.length_append]; omega) h2 hv hf (fun p h => hp p (List.mem_append_right _ h)) h4⟩
          simp only [Rep] at h3 ⊢
          obtain ⟨ws, h6, h7⟩ := h3
          exact ⟨ws, h6, refs_rep2 cap a1 (ids'.take m) _ h1 (by rw [List.length_take, Nat.min_eq_left (by rw [hl, List.length_append]; omega)]; omega) (fun p h => hp p (List.mem_append_left _ h)) h7⟩
        · cases hi
      · cases hi
  | .agg m :: ps, ids, ids', s, vs, us, x, hl, hi, hv, hf, hp, hr => by
    cases vs with
    | nil => simp [argIds] at hi
    | cons a r =>
      cases a <;> simp only [argIds] at hi <;> first | (cases hi; done) | skip
      rename_i cs
      split at hi
      · rename_i hcl
        split at hi
        · rename_i a1 b1 h1 h2
          cases hi
          simp only [RepL] at hr
          obtain ⟨u, us', rfl, h3, h4⟩ := hr
          have h5 := oslIds_length cs a1 h1
          have hz1 : (a1 ++ b1).zip ids' = a1.zip (ids'.take m) ++ b1.zip (ids'.drop m) := by
            conv => lhs; rw [← List.take_append_drop m ids']
            rw [List.zip_append]
            rw [List.length_take, Nat.min_eq_left]
            · omega
            · rw [hl, List.length_append]; omega
          rw [hz1] at hp
          simp only [entryVals, List.map_cons, RepL]
          refine ⟨u, us', rfl, ?_, args_rep2 g hz ps b1 (ids'.drop m) (s + 1) r us' x (by rw [List.length_drop, hl, List.length_append]; omega) h2 hv hf (fun p h => hp p (List.mem_append_right _ h)) h4⟩
          simp only [Rep] at h3 ⊢
          obtain ⟨ws, h6, h7⟩ := h3
          exact ⟨ws, h6, osls_rep2 cs a1 (ids'.take m) _ h1 (by rw [List.length_take, Nat.min_eq_left (by rw [hl, List.length_append]; omega)]; omega) (fun p h => hp p (List.mem_append_left _ h)) h7⟩
        · cases hi
      · cases hi

theorem ofOne_out (hh : Heap) (k : K) (x : k.T) : ofOne k hh (encV k x) = some x := by
  unfold ofOne
  rw [if_pos (encV_agg k x).symm, encV_cells]
  exact (congrArg (decOne k) (enc_view hh k x)).trans (decOne_enc k x)
theorem encCells_at : ∀ (cks : List CK) (c n : Nat) (x : CTs cks), ckOwn cks c = true → (encCells cks n x)[ckOff cks c]? = some (.osl (n + c))
  | [], c, n, x, h => by simp [ckOwn] at h
  | .val k :: r, 0, n, x, h => by simp [ckOwn] at h
  | .val k :: r, c + 1, n, x, h => by
    simp only [encCells, ckOff]
    have ih := encCells_at r c (n + 1) x.2 (by simpa [ckOwn] using h)
    have hl : (enc k x.1).length = k.sz := enc_length k x.1
    generalize enc k x.1 = l at hl ⊢
    rw [List.getElem?_append_right (by omega), hl, Nat.add_sub_cancel_left, show n + (c + 1) = n + 1 + c by omega]
    exact ih
  | .own ok :: r, 0, n, x, h => by simp [encCells, ckOff]
  | .own ok :: r, c + 1, n, x, h => by
    simp only [encCells, ckOff]
    rw [Nat.add_comm 1, List.getElem?_cons_succ, show n + (c + 1) = n + 1 + c by omega]
    exact encCells_at r c (n + 1) x.2 (by simpa [ckOwn] using h)
theorem boxesOut_at : ∀ (bs : List BK) (b : Nat) (is : List Nat) (n : Nat) (x : BTs bs) (ty : TypeId) (c : List CK) (bi : Nat), bs[b]? = some (.box ty c) → is[b]? = some bi → ∃ xb, (bi, .box ty (encCells c (n + 16 * b) xb)) ∈ boxesOut bs is n x
  | [], b, is, n, x, _, _, bi, h, _ => by simp at h
  | b0 :: r, b, [], n, x, _, _, bi, _, h => by simp at h
  | b0 :: r, 0, i :: is, n, x, ty, c, bi, h1, h2 => by
    simp only [List.getElem?_cons_zero, Option.some.injEq] at h1 h2
    subst h1; subst h2
    exact ⟨x.1, by simp only [boxesOut, objOut]; exact List.mem_append_left _ List.mem_cons_self⟩
  | b0 :: r, b + 1, i :: is, n, x, ty, c, bi, h1, h2 => by
    obtain ⟨xb, h3⟩ := boxesOut_at r b is (n + 16) x.2 ty c bi (by simpa using h1) (by simpa using h2)
    refine ⟨xb, ?_⟩
    simp only [boxesOut]
    rw [show n + 16 * (b + 1) = n + 16 + 16 * b by omega]
    exact List.mem_append_right _ h3
theorem decRes_out {bs : List BK} {hh : Heap} {is : List Nat} {nb : Nat} {xb : BTs bs} (hl : is.length = bs.length) (hgb : ∀ e ∈ boxesOut bs is nb xb, hh.get e.1 = some e.2) : ∀ (rs : List RK) (ids2 : List Nat) (m : Nat) (y : RTs rs), rsOk bs rs = true →
    (∀ e ∈ encResRows rs m y, hh.get e.1 = some e.2) → decRes bs rs hh is (encRes rs ids2 nb m y) = some y
  | [], ids2, m, y, _, _ => rfl
  | .val k :: r, ids2, m, y, hk, hg => by
    simp only [rsOk, List.all_cons, Bool.and_eq_true, rkOk] at hk
    have h1 := ofOne_out hh k y.1
    have h2 := decRes_out hl hgb r ids2 (m + 1) y.2 hk.2 hg
    have e : decRes bs (.val k :: r) hh is (encRes (.val k :: r) ids2 nb m y) = (match ofOne k hh (encV k y.1), decRes bs r hh is (encRes r ids2 nb (m + 1) y.2) with
      | some x, some y => some ((x, y) : k.T × RTs r)
      | _, _ => none) := rfl
    rw [e]
    generalize ofOne k hh (encV k y.1) = o1 at h1 ⊢
    generalize decRes bs r hh is (encRes r ids2 nb (m + 1) y.2) = o2 at h2 ⊢
    subst h1; subst h2; rfl
  | .own ok :: r, ids2, m, y, hk, hg => by
    simp only [rsOk, List.all_cons, Bool.and_eq_true, rkOk] at hk
    simp only [encResRows] at hg
    have h1 := ownAt_out (hg _ List.mem_cons_self)
    have h2 := decRes_out hl hgb r ids2 (m + 1) y.2 hk.2 (fun e he => hg e (List.mem_cons_of_mem _ he))
    have e : decRes bs (.own ok :: r) hh is (encRes (.own ok :: r) ids2 nb m y) = (match ownAt hh ok (.osl m), decRes bs r hh is (encRes r ids2 nb (m + 1) y.2) with
      | some x, some y => some ((x, y) : ok.T × RTs r)
      | _, _ => none) := rfl
    rw [e]
    generalize ownAt hh ok (.osl m) = o1 at h1 ⊢
    generalize decRes bs r hh is (encRes r ids2 nb (m + 1) y.2) = o2 at h2 ⊢
    subst h1; subst h2; rfl
  | .eptr b alts :: r, ids2, m, y, hk, hg => by
    simp only [rsOk, List.all_cons, Bool.and_eq_true, rkOk] at hk
    have h2 := decRes_out hl hgb r ids2 (m + 1) y.2 hk.2 hg
    have h1 : eptrAt bs hh is b alts (eptrV b nb alts y.1) = some y.1 := by
      cases hy : y.1 with
      | none => rfl
      | some p =>
        obtain ⟨al, i⟩ := p
        have h3 := hk.1
        split at h3
        · rename_i bk hbk
          have hlt := (List.getElem?_eq_some_iff.1 hbk).1
          have hbi : is[b]? = some (is[b]'(by omega)) := List.getElem?_eq_getElem (by omega)
          rw [Bool.and_eq_true, decide_eq_true_eq] at h3
          obtain ⟨h3, hnd⟩ := h3
          have h3a : ∀ a : Fin alts.length, ckOwn bk.cks (alts.get a).1 = true := fun a => List.all_eq_true.1 h3 _ (List.get_mem alts a)
          cases bk with
          | own ok => have := h3a al; simp [BK.cks, ckOwn] at this
          | box ty c0 =>
            obtain ⟨xb', h4⟩ := boxesOut_at bs b is nb xb ty c0 _ hbk hbi
            have h5 := hgb _ h4
            simp only [BK.cks] at h3a
            simp only [eptrAt, eptrV, hbk, hbi, h5, BK.cks]
            have key : (List.finRange alts.length).find? (fun a => altIs c0 (encCells c0 (nb + 16 * b) xb') (nb + 16 * b + (alts.get al).1) (alts.get al).2.1 (alts.get al).2.2 (alts.get a)) = some al := by
              cases hf : (List.finRange alts.length).find? (fun a => altIs c0 (encCells c0 (nb + 16 * b) xb') (nb + 16 * b + (alts.get al).1) (alts.get al).2.1 (alts.get al).2.2 (alts.get a)) with
              | none =>
                have := List.find?_eq_none.1 hf al (List.mem_finRange al)
                exfalso
                apply this
                simp only [altIs, Bool.and_eq_true, decide_eq_true_eq]
                refine ⟨?_, trivial, trivial, h3a al⟩
                rw [encCells_at c0 _ _ xb' (h3a al)]
                simp [isOsl]
              | some a' =>
                have hf' := List.find?_some hf
                obtain ⟨h6, _, h7, _⟩ := altIs_spec hf'
                rw [encCells_at c0 _ _ xb' (h3a a')] at h6
                simp only [Option.some.injEq, AV.osl.injEq] at h6
                have h8 : (alts.get a').1 = (alts.get al).1 := by omega
                congr 1
                have hget : ∀ a : Fin alts.length, (alts.map fun a => (a.1, a.2.2))[a.val]? = some ((alts.get a).1, (alts.get a).2.2) := fun a => by
                  rw [List.getElem?_map, List.getElem?_eq_getElem a.isLt]; rfl
                have e1 := hget a'
                have e2 := hget al
                rw [h8, ← h7] at e1
                exact Fin.ext ((List.getElem?_inj (by simp) hnd).1 (e1.trans e2.symm))
            rw [key]
            rfl
        · cases h3
    have e : decRes bs (.eptr b alts :: r) hh is (encRes (.eptr b alts :: r) ids2 nb m y) = (match eptrAt bs hh is b alts (eptrV b nb alts y.1), decRes bs r hh is (encRes r ids2 nb (m + 1) y.2) with
      | some x, some y => some ((x, y) : Option (Fin alts.length × Nat) × RTs r)
      | _, _ => none) := rfl
    rw [e]
    generalize eptrAt bs hh is b alts (eptrV b nb alts y.1) = o1 at h1 ⊢
    generalize decRes bs r hh is (encRes r ids2 nb (m + 1) y.2) = o2 at h2 ⊢
    subst h1; subst h2; rfl
  | .agg c :: r, ids2, m, y, hk, hg => by
    simp only [rsOk, List.all_cons, Bool.and_eq_true, rkOk] at hk
    simp only [encResRows] at hg
    have h1 := decCKs_out (hh := hh) c m y.1 (fun e he => hg e (List.mem_append_left _ he))
    have h2 := decRes_out hl hgb r ids2 (m + 1) y.2 hk.2 (fun e he => hg e (List.mem_append_right _ he))
    have e : decRes bs (.agg c :: r) hh is (encRes (.agg c :: r) ids2 nb m y) = (match decCKs c hh (encCells c m y.1), decRes bs r hh is (encRes r ids2 nb (m + 1) y.2) with
      | some x, some y => some ((x, y) : CTs c × RTs r)
      | _, _ => none) := rfl
    rw [e]
    generalize decCKs c hh (encCells c m y.1) = o1 at h1 ⊢
    generalize decRes bs r hh is (encRes r ids2 nb (m + 1) y.2) = o2 at h2 ⊢
    subst h1; subst h2; rfl
end Go.Vs

set_option linter.unusedSimpArgs false
set_option linter.unusedVariables false
namespace Go.Vs

variable {P : Program} {Z Z' : Nat → Prop} {ψ ψ' : Nat → Value} {h h' : Hp} {w w' : World} {B0 : Nat} {O : Nat → Prop} {N : Nat → Prop}

/-- A function's contract. x: the data and the boxes that it is handed; y: its results, and what the boxes hold then. -/
def inH (g : Sig) (x : g.A) : Hp := (boxesOut g.bs (entryIds g.bs.length) 2000 x.2).get
def outH (g : Sig) (y : g.B) : Heap := boxesOut g.bs (entryIds g.bs.length) 2000 y.2 ++ encResRows g.rs 3000 y.1
def argsAV (g : Sig) (x : g.A) : List AV := (entryVals g.ps (entryIds g.bs.length) 0 x.1).map (·.2)
def Con (P : Program) (f : FuncId) (g : Sig) (x : g.A) (y : g.B) : Prop :=
  ∀ (Z : Nat → Prop) (ψ0 : Nat → Value) (w : World) (cargs : List Value), Good Z ψ0 (inH g x) w w.heap.size (Own ψ0 (inH g x)) → RepL Z ψ0 (inH g x) w (argsAV g x) cargs →
    Calls P (f % 1000) cargs.toArray w fun e w' => ∃ v Z' ψ', e = .returned v ∧ (∀ b, Z b → Z' b) ∧ (∀ b, Z' b → Z b ∨ Own ψ0 (inH g x) b ∨ w.heap.size ≤ b) ∧ Keep ψ0 (inH g x) w w' ∧
      Good Z' ψ' (outH g y).get w' w.heap.size (Own ψ0 (inH g x)) ∧ (∀ i ∈ entryIds g.bs.length, ψ' i = ψ0 i) ∧ Rep Z' ψ' (outH g y).get w' (tupOf (encRes g.rs (entryIds g.bs.length) 2000 3000 y.1)) v

theorem own_nil {ψ : Nat → Value} {b : Nat} : ¬ Own ψ NoHeap b := fun ⟨_, h, _⟩ => h rfl
theorem boxesOut_nil (ids : List Nat) (n : Nat) (x : BTs []) : boxesOut [] ids n x = [] := by cases ids <;> rfl
theorem Con.zero {f : FuncId} {g : Sig} {x : g.A} {y : g.B} (hb : g.bs = []) (c : Con P f g x y) : Con0 P f g x y := by
  obtain ⟨ps, bs, rs, _⟩ := g
  simp only at hb
  subst hb
  intro Z w cargs hz hr
  have e0 : inH ⟨ps, [], rs, _⟩ x = NoHeap := by unfold inH; rw [boxesOut_nil]; rfl
  have e1 : outH ⟨ps, [], rs, _⟩ y = encResRows rs 3000 y.1 := by unfold outH; rw [boxesOut_nil]; rfl
  have hO : Own NoV NoHeap = fun _ => False := funext fun b => propext ⟨own_nil, False.elim⟩
  unfold Con at c
  rw [e0, e1] at c
  refine (c Z NoV w cargs ⟨fun _ _ _ h => (by cases h), fun _ _ _ h => (by cases h), fun _ _ h => absurd rfl h, fun _ _ _ h => absurd rfl h, hz⟩ hr).mono fun e w' ⟨v, Z', ψ', h1, h2, h3, h4, h5, _, h6⟩ => ?_
  exact ⟨v, Z', ψ', h1, h2, fun b hb => (h3 b hb).imp (fun h => h) fun h => h.resolve_left own_nil, h4, by rw [hO] at h5; exact h5, h6⟩

theorem boxesIn_nil {bs : List BK} {hh : Heap} {x : BTs bs} (hd : boxesIn bs hh [] = some x) : bs = [] := by
  cases bs with
  | nil => rfl
  | cons b r => cases hd

variable {Eqs : TypeId → Option K} {Sg : FuncId → Option Sig} {F : (f : FuncId) → (g : Sig) → g.A → Option g.B}

theorem nodupB_left {a b : List Nat} (h : nodupB (a ++ b) = true) : nodupB a = true := by
  induction a with
  | nil => rfl
  | cons i r ih =>
    obtain ⟨h1, h2⟩ := nodupB_cons h
    simp only [nodupB, Bool.and_eq_true, Bool.not_eq_true']
    refine ⟨?_, ih h2⟩
    cases hc : r.contains i with
    | false => rfl
    | true => exact absurd (List.mem_append_left _ (List.contains_iff_mem.1 hc)) h1
theorem Good.ownself (g : Good Z ψ h w B0 O) (B : Nat) : Good Z ψ h w B (Own ψ h) :=
  ⟨g.box, g.row, fun id b h1 h2 => ⟨(g.live id b h1 h2).1, .inr ⟨id, h1, h2⟩⟩, g.apart, g.zlt⟩
theorem get_dels : ∀ (l : List Nat) (hh : Heap) (i : Nat), (dels hh l).get i = if i ∈ l then none else hh.get i
  | [], hh, i => by simp [dels]
  | j :: r, hh, i => by
    simp only [dels]
    rw [get_dels r (hh.del j) i]
    by_cases h1 : i ∈ r
    · simp [h1]
    · by_cases h2 : i = j
      · subst h2; simp [Heap.get_del_self]
      · rw [Heap.get_del_ne h2]; simp [h1, h2]

theorem encRows_names : ∀ (cks : List CK) (n : Nat) (x : CTs cks), (encRows cks n x).map (·.1) = ckNames cks n
  | [], _, _ => rfl
  | .val k :: r, n, x => encRows_names r (n + 1) x.2
  | .own ok :: r, n, x => by simp only [encRows, ckNames, List.map_cons]; rw [encRows_names r (n + 1) x.2]
theorem boxesOut_names : ∀ (bs : List BK) (is : List Nat) (n : Nat) (x : BTs bs), is.length = bs.length → (boxesOut bs is n x).map (·.1) = boxNames bs is n
  | [], is, n, x, _ => by cases is <;> rfl
  | b :: r, [], n, x, hl => by simp at hl
  | b :: r, i :: is, n, x, hl => by
    simp only [boxesOut, boxNames, List.map_append]
    rw [boxesOut_names r is (n + 16) x.2 (by simpa using hl), ← List.cons_append]
    congr 1
    cases b with
    | box ty c => simp only [objOut, List.map_cons, BK.cks]; rw [encRows_names]
    | own ok => simp [objOut, BK.cks, ckNames]
theorem resRows_names : ∀ (rs : List RK) (m : Nat) (y : RTs rs), (encResRows rs m y).map (·.1) = resNames rs m
  | [], _, _ => rfl
  | .own ok :: r, m, y => by simp only [encResRows, resNames, List.map_cons]; rw [resRows_names r (m + 1) y.2]
  | .val _ :: r, m, y => resRows_names r (m + 1) y.2
  | .eptr _ _ :: r, m, y => resRows_names r (m + 1) y.2
  | .agg c :: r, m, y => by
    have e1 : (encRows c m y.1).map (·.1) = ckNames c m := encRows_names c m y.1
    simp only [encResRows, resNames, List.map_append]
    rw [resRows_names r (m + 1) y.2]
    exact congrArg (· ++ _) e1
theorem ckKept_out : ∀ (cks : List CK) (n : Nat) (x : CTs cks), ckKept cks (encCells cks n x) = ckNames cks n
  | [], _, _ => rfl
  | .val k :: r, n, x => by
    have h2 : (encCells (.val k :: r) n x).drop k.sz = encCells r (n + 1) x.2 := by simp only [encCells]; rw [← enc_length k x.1, List.drop_left]
    have e : ckKept (.val k :: r) (encCells (.val k :: r) n x) = ckKept r ((encCells (.val k :: r) n x).drop k.sz) := by generalize encCells (.val k :: r) n x = l; cases l <;> rfl
    rw [e, h2, ckKept_out r (n + 1) x.2]; rfl
  | .own ok :: r, n, x => by simp only [encCells, ckKept, srcs, ckNames, List.cons_append, List.nil_append]; rw [ckKept_out r (n + 1) x.2]
theorem boxKept_out {hh : Heap} : ∀ (bs : List BK) (is : List Nat) (n : Nat) (x : BTs bs), is.length = bs.length → (∀ e ∈ boxesOut bs is n x, hh.get e.1 = some e.2) → boxKept bs hh is = boxNames bs is n
  | [], is, n, x, _, _ => by cases is <;> rfl
  | _ :: _, [], n, x, hl, _ => by simp at hl
  | b :: r, i :: is, n, x, hl, hg => by
    simp only [boxesOut] at hg
    simp only [boxKept, boxNames]
    rw [boxKept_out r is (n + 16) x.2 (by simpa using hl) (fun e he => hg e (List.mem_append_right _ he)), ← List.cons_append]
    congr 1
    cases b with
    | box ty c =>
      simp only [objKept, BK.cks]
      rw [hg (i, .box ty (encCells c n x.1)) (List.mem_append_left _ (by simp only [objOut]; exact List.mem_cons_self))]
      simp only []
      rw [ckKept_out]
    | own ok => simp [objKept, BK.cks, ckNames]
theorem resKept_out : ∀ (rs : List RK) (ids : List Nat) (n m : Nat) (y : RTs rs), resKept rs (encRes rs ids n m y) = resNames rs m
  | [], _, _, _, _ => rfl
  | .own ok :: r, ids, n, m, y => by simp only [encRes, resKept, resNames, srcs, List.cons_append, List.nil_append]; rw [resKept_out r ids n (m + 1) y.2]
  | .val _ :: r, ids, n, m, y => by simp only [encRes, resKept, resNames]; exact resKept_out r ids n (m + 1) y.2
  | .eptr _ _ :: r, ids, n, m, y => by simp only [encRes, resKept, resNames]; exact resKept_out r ids n (m + 1) y.2
  | .agg c :: r, ids, n, m, y => by
    have e1 : ckKept c (encCells c m y.1) = ckNames c m := ckKept_out c m y.1
    simp only [encRes, resKept, resNames, AV.cells]
    rw [resKept_out r ids n (m + 1) y.2]
    exact congrArg (· ++ _) e1
theorem resFrz_out : ∀ (rs : List RK) (ids : List Nat) (n m : Nat) (y : RTs rs) (id : Nat), AV.osl id ∉ resFrz rs (encRes rs ids n m y)
  | [], _, _, _, _, _ => by simp [encRes, resFrz]
  | .own ok :: r, ids, n, m, y, id => by simp only [encRes, resFrz]; exact resFrz_out r ids n (m + 1) y.2 id
  | .val k :: r, ids, n, m, y, id => by
    simp only [encRes, resFrz, List.mem_append]
    rintro (h | h)
    · have e : (encV k y.1).cells = enc k y.1 := encV_cells k y.1
      exact enc_no_osl k y.1 id (e ▸ h)
    · exact resFrz_out r ids n (m + 1) y.2 id h
  | .eptr _ _ :: r, ids, n, m, y, id => by simp only [encRes, resFrz]; exact resFrz_out r ids n (m + 1) y.2 id
  | .agg c :: r, ids, n, m, y, id => by
    simp only [encRes, resFrz, AV.cells, List.mem_append]
    rintro (h | h)
    · exact frz_out (hh := []) c m y.1 id h
    · exact resFrz_out r ids n (m + 1) y.2 id h

/-- The boxes that were handed on come back: the caller's heap. -/
theorem call_back {gg : Sig} {x : gg.A} {y : gg.B} {IDS : List Nat} {ψ1 ψ2 : Nat → Value} {id : Nat} (hl : IDS.length = gg.bs.length) (hrs : rsOk gg.bs gg.rs = true) (hout : nodupB (outNames gg) = true)
    (hnames : nodupB (boxNames gg.bs IDS id ++ resNames gg.rs (id + 128)) = true) (good2 : Good Z' ψ2 (outH gg y).get w' w.heap.size (Own ψ1 (inH gg x)))
    {v : Value} (rep2 : Rep Z' ψ2 (outH gg y).get w' (tupOf (encRes gg.rs (entryIds gg.bs.length) 2000 3000 y.1)) v) :
    ∃ L2 : List Ent, entH L2 = boxesOut gg.bs IDS id y.2 ++ encResRows gg.rs (id + 128) y.1 ∧ L2.map (·.1) = boxNames gg.bs IDS id ++ resNames gg.rs (id + 128) ∧
      Good Z' (entψ ψ2 L2) (entH L2).get w' w.heap.size (Own ψ1 (inH gg x)) ∧ (∀ p ∈ (entryIds gg.bs.length).zip IDS, entψ ψ2 L2 p.2 = ψ2 p.1) ∧
      Rep Z' (entψ ψ2 L2) (entH L2).get w' (tupOf (encRes gg.rs IDS id (id + 128) y.1)) v := by
  have hle : (entryIds gg.bs.length).length = gg.bs.length := by simp [entryIds]
  have hn2 : nodupB ((outH gg y).map (·.1)) = true := by
    unfold outH
    rw [List.map_append, boxesOut_names _ _ _ _ hle, resRows_names]; exact hout
  have hgb : ∀ e ∈ boxesOut gg.bs (entryIds gg.bs.length) 2000 y.2, (outH gg y).get e.1 = some e.2 := fun e he => get_nodup hn2 (by unfold outH; exact List.mem_append_left _ he)
  have hgr : ∀ e ∈ encResRows gg.rs 3000 y.1, (outH gg y).get e.1 = some e.2 := fun e he => get_nodup hn2 (by unfold outH; exact List.mem_append_right _ he)
  have hb2 := boxesIn_out gg.bs _ 2000 y.2 hle hgb
  have hd2 := decRes_out (xb := y.2) hle hgb gg.rs (entryIds gg.bs.length) 3000 y.1 hrs hgr
  let vsC := encRes gg.rs (entryIds gg.bs.length) 2000 3000 y.1
  let L2 : List Ent := boxEnts gg.bs (outH gg y) (entryIds gg.bs.length) IDS id y.2 ++ resEnts gg.rs vsC (id + 128) y.1
  have eH : entH L2 = boxesOut gg.bs IDS id y.2 ++ encResRows gg.rs (id + 128) y.1 := by
    show entH (_ ++ _) = _
    rw [entH_append, boxEnts_heap _ _ _ _ _ _ hb2 hl, resEnts_heap]
  have eN : L2.map (·.1) = boxNames gg.bs IDS id ++ resNames gg.rs (id + 128) := by
    show (_ ++ _ : List Ent).map _ = _
    rw [List.map_append, boxEnts_names _ _ _ _ _ _ hb2 hl, resEnts_names]
  have eS : L2.filterMap (·.2.1) = outNames gg := by
    show (_ ++ _ : List Ent).filterMap _ = _
    rw [List.filterMap_append, boxEnts_src _ _ _ _ _ _ hb2 hl, resEnts_src _ _ _ _ hd2, boxKept_out _ _ 2000 y.2 hle hgb, resKept_out]; rfl
  have hn : nodupB (L2.map (·.1)) = true := by rw [eN]; exact hnames
  have hψ := ents_ψ (ψ := ψ2) hn
  have g3 : Good Z' (entψ ψ2 L2) (entH L2).get w' w.heap.size (Own ψ1 (inH gg x)) := by
    refine good2.rename hn (by rw [eS]; exact hout) fun e he => ?_
    rcases List.mem_append.1 he with he | he
    · exact boxEnts_ok good2 (fun _ h => h) gg.bs _ _ id y.2 hb2 (fun i b hid _ _ => (boxFrz_out gg.bs _ 2000 y.2 i hgb hid).elim) (fun s _ => rfl) (fun e he => hψ e (List.mem_append_left _ he)) e he
    · exact resEnts_ok gg.rs vsC (id + 128) y.1 hd2 (fun s _ => rfl) e he
  refine ⟨L2, eH, eN, g3, fun p hp => ?_, ?_⟩
  · obtain ⟨o, ho⟩ := boxEnts_zip (hh := outH gg y) gg.bs (entryIds gg.bs.length) IDS id y.2 hle p hp
    exact entψ_mem hn (List.mem_append_left _ ho)
  · refine tupOf_move (by rw [encRes_length, encRes_length]) (fun vs hvs => ?_) rep2
    exact res_rep (nb := id) (is' := IDS) good2 (fun _ h => h) hb2 hl (fun e he => hψ e (List.mem_append_left _ he)) gg.rs vsC (id + 128) y.1 vs hd2 (fun i b hid _ _ => (resFrz_out gg.rs _ _ _ y.1 i hid).elim) (fun e he => hψ e (List.mem_append_right _ he)) hvs

/-- What was handed on, and came back, beside the rest. -/
theorem join_next {hh : Heap} {frz : List AV} {kept : List Nat} {hin : Hp} {ψ1 ψ3 : Nat → Value} {H2 : Heap} (g : Good Z ψ hh.get w B0 O) (hB : B0 ≤ w.heap.size) (hkd : ∀ s ∈ kept, (drops hh frz).get s = hh.get s)
    (hment : ∀ i ty cs, hh.get i = some (.box ty cs) → MentL (fun i => ¬ N i) cs) (hown : ∀ b, Own ψ1 hin b → ∃ s, s ∈ kept ∧ hh.get s ≠ none ∧ ob (ψ s) = some b)
    (hz : ∀ b, Zof Z ψ hh.get frz b → Z' b) (hz' : ∀ b, Z' b → Zof Z ψ hh.get frz b ∨ Own ψ1 hin b ∨ w.heap.size ≤ b) (keep : Keep ψ1 hin w w') (g3 : Good Z' ψ3 H2.get w' w.heap.size (Own ψ1 hin))
    (hm2 : ∀ i ty cs, H2.get i = some (.box ty cs) → MentL (fun j => H2.get j ≠ none) cs) (hids : ∀ i, H2.get i ≠ none → (i ∈ kept ∧ hh.get i ≠ none ∧ ψ3 i = ψ i) ∨ N i) :
    ∃ ψ4, (∀ i, H2.get i ≠ none → ψ4 i = ψ3 i) ∧ Next Z ψ hh.get w B0 O N Z' ψ4 (H2 ++ dels (drops hh frz) kept).get w' := by
  classical
  let ψ4 : Nat → Value := fun i => if H2.get i ≠ none then ψ3 i else ψ i
  have h4 : ∀ i, H2.get i ≠ none → ψ4 i = ψ3 i := fun i hi => if_pos hi
  have hg : ∀ i, (H2 ++ dels (drops hh frz) kept).get i = (match H2.get i with | some o => some o | none => if i ∈ kept then none else (drops hh frz).get i) := fun i => by rw [Heap.get_append, get_dels]; cases H2.get i <;> rfl
  have hnew : ∀ i, H2.get i ≠ none → (H2 ++ dels (drops hh frz) kept).get i = H2.get i := fun i hi => by
    rw [hg]; cases e : H2.get i with
    | none => exact absurd e hi
    | some o => rfl
  have hrest : ∀ i, H2.get i = none → (H2 ++ dels (drops hh frz) kept).get i ≠ none → i ∉ kept ∧ (H2 ++ dels (drops hh frz) kept).get i = hh.get i ∧ (drops hh frz).get i = hh.get i ∧ ψ4 i = ψ i ∧ hh.get i ≠ none := fun i hi hne => by
    rw [hg, hi] at hne ⊢
    simp only at hne ⊢
    by_cases hk : i ∈ kept
    · rw [if_pos hk] at hne; exact absurd rfl hne
    · rw [if_neg hk] at hne ⊢
      obtain ⟨o, ho⟩ := Option.ne_none_iff_exists'.1 hne
      have := drops_sub _ _ _ _ ho
      exact ⟨hk, by rw [ho, this], by rw [ho, this], if_neg (by simp [hi]), by rw [this]; simp⟩
  -- blocks of the rest are not touched
  have away : ∀ i b, i ∉ kept → hh.get i ≠ none → ob (ψ i) = some b → ¬ Own ψ1 hin b := fun i b hk hi hb ho => by
    obtain ⟨s, h1, h2, h3⟩ := hown b ho
    exact hk ((g.apart i s b hi h2 hb h3) ▸ h1)
  have gd : Good (Zof Z ψ hh.get frz) ψ (drops hh frz).get w B0 O := drops_good g frz
  have zaway : ∀ b, Zof Z ψ hh.get frz b → ¬ Own ψ1 hin b := fun b hb ho => by
    obtain ⟨s, h1, h2, h3⟩ := hown b ho
    exact (gd.live s b (by rw [hkd s h1]; exact h2) h3).1 hb
  have sm : Same (Zof Z ψ hh.get frz) w w' := fun b hb => keep.block b (gd.zlt b hb) (zaway b hb)
  have hids' : ∀ i, (H2 ++ dels (drops hh frz) kept).get i ≠ none → (hh.get i ≠ none ∧ ψ4 i = ψ i) ∨ N i := fun i hi => by
    by_cases h2 : H2.get i = none
    · obtain ⟨_, _, _, h3, h5⟩ := hrest i h2 hi
      exact .inl ⟨h5, h3⟩
    · rcases hids i h2 with ⟨_, h3, h5⟩ | h3
      · exact .inl ⟨h3, (h4 i h2).trans h5⟩
      · exact .inr h3
  have kk : Keep ψ hh.get w w' := ⟨keep.os, keep.tape, keep.output, keep.size, fun b hb hno => keep.block b hb fun ho => by
    obtain ⟨s, _, h2, h3⟩ := hown b ho
    exact hno ⟨s, h2, h3⟩⟩
  refine ⟨ψ4, h4, fun b hb => hz b (.inl hb), fun b hb => ?_, kk, hids', ⟨fun i ty cs hb => ?_, fun i ok xs hb => ?_, fun i b h1 h2 => ?_, fun i i' b h1 h2 h3 h5 => ?_, g3.zlt⟩⟩
  · rcases hz' b hb with h1 | h1 | h1
    · exact (h1.imp (fun h => h) fun ⟨i, _, h2, h3⟩ => .inl ⟨i, h2, h3⟩)
    · obtain ⟨s, _, h2, h3⟩ := hown b h1
      exact .inr (.inl ⟨s, h2, h3⟩)
    · exact .inr (.inr h1)
  · by_cases h2 : H2.get i = none
    · obtain ⟨h3, h5, h6, h7, h8⟩ := hrest i h2 (by rw [hb]; simp)
      rw [h5] at hb
      obtain ⟨gg, vs, e1, e2, e3, e4⟩ := gd.box i ty cs (by rw [h6]; exact hb)
      have hlt := (Array.getElem?_eq_some_iff.1 e2).1
      refine ⟨gg, vs, by rw [h7, e1], ?_, ?_, e4⟩
      · rw [keep.block gg hlt (away i gg h3 h8 (by rw [e1]; rfl))]; exact e2
      · refine e3.move (p := fun i => ¬ N i) hz sm (fun j hp hj => ?_) (hment i ty cs hb)
        by_cases h9 : H2.get j = none
        · obtain ⟨_, _, h10, h11, h12⟩ := hrest j h9 hj
          exact ⟨by rw [h10]; exact h12, h11⟩
        · rcases hids j h9 with ⟨h10, h11, h12⟩ | h10
          · exact ⟨by rw [hkd j h10]; exact h11, (h4 j h9).trans h12⟩
          · exact absurd h10 hp
    · rw [hnew i h2] at hb
      obtain ⟨gg, vs, e1, e2, e3, e4⟩ := g3.box i ty cs hb
      exact ⟨gg, vs, by rw [h4 i h2, e1], e2, e3.move (p := fun j => H2.get j ≠ none) (fun _ h => h) (Same.refl _ _) (fun j hp _ => ⟨hp, h4 j hp⟩) (hm2 i ty cs hb), e4⟩
  · by_cases h2 : H2.get i = none
    · obtain ⟨h3, h5, h6, h7, h8⟩ := hrest i h2 (by rw [hb]; simp)
      rw [h5] at hb
      rw [h7]
      exact (gd.row i ok xs (by rw [h6]; exact hb)).kept hz sm fun gg hgg => keep.block gg (g.own_lt ⟨i, h8, hgg⟩) (away i gg h3 h8 hgg)
    · rw [hnew i h2] at hb
      rw [h4 i h2]
      exact g3.row i ok xs hb
  · by_cases h3 : H2.get i = none
    · obtain ⟨h5, h6, h7, h8, h9⟩ := hrest i h3 h1
      rw [h8] at h2
      obtain ⟨h10, h11⟩ := gd.live i b (by rw [h7]; exact h9) h2
      refine ⟨fun hzb => ?_, h11⟩
      rcases hz' b hzb with h12 | h12 | h12
      · exact h10 h12
      · exact away i b h5 h9 h2 h12
      · have := g.own_lt ⟨i, h9, h2⟩; omega
    · rw [h4 i h3] at h2
      obtain ⟨h5, h6⟩ := g3.live i b h3 h2
      refine ⟨h5, ?_⟩
      rcases h6 with h6 | h6
      · exact .inl (by omega)
      · obtain ⟨s, _, h7, h8⟩ := hown b h6
        exact (g.live s b h7 h8).2
  · have cross : ∀ i i', H2.get i = none → H2.get i' ≠ none → (H2 ++ dels (drops hh frz) kept).get i ≠ none → ob (ψ4 i) = some b → ob (ψ4 i') = some b → False := fun i i' e1 e2 e3 e4 e5 => by
      obtain ⟨h6, _, _, h8, h9⟩ := hrest i e1 e3
      rw [h8] at e4; rw [h4 i' e2] at e5
      rcases (g3.live i' b e2 e5).2 with h10 | h10
      · have := g.own_lt ⟨i, h9, e4⟩; omega
      · exact away i b h6 h9 e4 h10
    by_cases e1 : H2.get i = none <;> by_cases e2 : H2.get i' = none
    · obtain ⟨_, _, _, h8, h9⟩ := hrest i e1 h1
      obtain ⟨_, _, _, h8', h9'⟩ := hrest i' e2 h2
      rw [h8] at h3; rw [h8'] at h5
      exact g.apart i i' b h9 h9' h3 h5
    · exact (cross i i' e1 e2 h1 h3 h5).elim
    · exact (cross i' i e2 e1 h2 h5 h3).elim
    · rw [h4 i e1] at h3; rw [h4 i' e2] at h5
      exact g3.apart i i' b e1 e2 h3 h5

theorem mem_get {i : Nat} {o : Ob} : ∀ {hh : Heap}, (i, o) ∈ hh → hh.get i ≠ none
  | [], h => by cases h
  | (j, o') :: r, h => by
    simp only [Heap.get]
    split
    · simp
    · rename_i hn
      rcases List.mem_cons.1 h with e | h
      · cases e; exact absurd rfl hn
      · exact mem_get h
theorem get_mem {i : Nat} {o : Ob} : ∀ {hh : Heap}, hh.get i = some o → (i, o) ∈ hh
  | [], h => by simp [Heap.get] at h
  | (j, o') :: r, h => by
    simp only [Heap.get] at h
    split at h
    · rename_i e; subst e; cases h; exact List.mem_cons_self
    · exact List.mem_cons_of_mem _ (get_mem h)
theorem mentL_append {p : Nat → Prop} : ∀ {a b : List AV}, MentL p a → MentL p b → MentL p (a ++ b)
  | [], b, _, h => h
  | x :: r, b, h, h' => by simp only [List.cons_append, MentL] at h ⊢; exact ⟨h.1, mentL_append h.2 h'⟩
theorem encCells_ment {p : Nat → Prop} : ∀ (cks : List CK) (n : Nat) (x : CTs cks), (∀ e ∈ encRows cks n x, p e.1) → MentL p (encCells cks n x)
  | [], n, x, _ => by simp only [encCells, MentL]
  | .val k :: r, n, x, h => by simp only [encCells]; exact mentL_append (enc_ment p k x.1) (encCells_ment r (n + 1) x.2 h)
  | .own ok :: r, n, x, h => by
    simp only [encRows] at h
    simp only [encCells, MentL, Ment]
    exact ⟨h _ List.mem_cons_self, encCells_ment r (n + 1) x.2 fun e he => h e (List.mem_cons_of_mem _ he)⟩
theorem encRows_row : ∀ (cks : List CK) (n : Nat) (x : CTs cks) (i : Nat) (ty : TypeId) (cs : List AV), (i, Ob.box ty cs) ∉ encRows cks n x
  | [], _, _, _, _, _ => by simp [encRows]
  | .val k :: r, n, x, i, ty, cs => encRows_row r (n + 1) x.2 i ty cs
  | .own _ :: r, n, x, i, ty, cs => by
    simp only [encRows, List.mem_cons, not_or]
    exact ⟨by simp, encRows_row r (n + 1) x.2 i ty cs⟩
theorem boxesOut_ment {p : Nat → Prop} : ∀ (bs : List BK) (is : List Nat) (n : Nat) (x : BTs bs), (∀ e ∈ boxesOut bs is n x, p e.1) → ∀ i ty cs, (i, Ob.box ty cs) ∈ boxesOut bs is n x → MentL p cs
  | [], is, n, x, _, i, ty, cs, h => by cases is <;> simp [boxesOut] at h
  | b :: r, [], n, x, _, i, ty, cs, h => by simp [boxesOut] at h
  | b :: r, i0 :: is, n, x, hp, i, ty, cs, h => by
    simp only [boxesOut] at h hp
    rcases List.mem_append.1 h with h | h
    · cases b with
      | box ty0 c0 =>
        simp only [objOut] at h hp
        rcases List.mem_cons.1 h with e | h
        · cases e
          exact encCells_ment c0 n x.1 fun e he => hp e (List.mem_append_left _ (List.mem_cons_of_mem _ he))
        · exact absurd h (encRows_row _ _ _ _ _ _)
      | own ok => simp [objOut] at h
    · exact boxesOut_ment r is (n + 16) x.2 (fun e he => hp e (List.mem_append_right _ he)) i ty cs h
theorem ckNames_mem : ∀ (cks : List CK) (n i : Nat), i ∈ ckNames cks n → n ≤ i ∧ i < n + cks.length
  | [], n, i, h => by simp [ckNames] at h
  | .val k :: r, n, i, h => by
    have := ckNames_mem r (n + 1) i (by simpa [ckNames] using h)
    simp only [List.length_cons]; omega
  | .own ok :: r, n, i, h => by
    simp only [ckNames] at h
    simp only [List.length_cons]
    rcases List.mem_cons.1 h with rfl | h
    · omega
    · have := ckNames_mem r (n + 1) i h; omega
theorem boxNames_mem : ∀ (bs : List BK) (is : List Nat) (n i : Nat), (bs.all fun b => decide (b.cks.length ≤ 16)) = true → i ∈ boxNames bs is n → i ∈ is ∨ (n ≤ i ∧ i < n + 16 * bs.length)
  | [], is, n, i, _, h => by cases is <;> simp [boxNames] at h
  | b :: r, [], n, i, _, h => by simp [boxNames] at h
  | b :: r, i0 :: is, n, i, hc, h => by
    simp only [List.all_cons, Bool.and_eq_true, decide_eq_true_eq] at hc
    simp only [boxNames] at h
    simp only [List.length_cons]
    rcases List.mem_cons.1 h with rfl | h
    · exact .inl List.mem_cons_self
    · rcases List.mem_append.1 h with h | h
      · have := ckNames_mem _ _ _ h; exact .inr (by omega)
      · rcases boxNames_mem r is (n + 16) i hc.2 h with h1 | h1
        · exact .inl (List.mem_cons_of_mem _ h1)
        · exact .inr (by omega)
theorem resNames_mem {bs : List BK} : ∀ (rs : List RK) (m i : Nat), rsOk bs rs = true → i ∈ resNames rs m → m ≤ i ∧ i < m + rs.length + 16
  | [], m, i, _, h => by simp [resNames] at h
  | .own ok :: r, m, i, hk, h => by
    simp only [rsOk, List.all_cons, Bool.and_eq_true] at hk
    simp only [resNames] at h
    simp only [List.length_cons]
    rcases List.mem_cons.1 h with rfl | h
    · omega
    · have := resNames_mem r (m + 1) i hk.2 h; omega
  | .val _ :: r, m, i, hk, h => by
    simp only [rsOk, List.all_cons, Bool.and_eq_true] at hk
    have := resNames_mem r (m + 1) i hk.2 (by simpa [resNames] using h)
    simp only [List.length_cons]; omega
  | .eptr _ _ :: r, m, i, hk, h => by
    simp only [rsOk, List.all_cons, Bool.and_eq_true] at hk
    have := resNames_mem r (m + 1) i hk.2 (by simpa [resNames] using h)
    simp only [List.length_cons]; omega
  | .agg c :: r, m, i, hk, h => by
    simp only [rsOk, List.all_cons, Bool.and_eq_true, rkOk, decide_eq_true_eq] at hk
    simp only [resNames] at h
    simp only [List.length_cons]
    rcases List.mem_append.1 h with h | h
    · have := ckNames_mem c m i h; omega
    · have := resNames_mem r (m + 1) i hk.2 h; omega
theorem boxKept_ids {hh : Heap} : ∀ (bs : List BK) (is : List Nat) (i : Nat), is.length = bs.length → i ∈ is → i ∈ boxKept bs hh is
  | [], is, i, hl, h => by cases is with
    | nil => cases h
    | cons a r => simp at hl
  | b :: r, [], i, _, h => by cases h
  | b :: r, i0 :: is, i, hl, h => by
    simp only [boxKept]
    rcases List.mem_cons.1 h with rfl | h
    · refine List.mem_append_left _ ?_
      cases b <;> simp [objKept]
    · exact List.mem_append_right _ (boxKept_ids r is i (by simpa using hl) h)
theorem zip_at {α β : Type} : ∀ {a : List α} {b : List β}, a.length = b.length → ∀ x ∈ a, ∃ y, (x, y) ∈ a.zip b ∧ (y, x) ∈ b.zip a
  | [], b, _, x, h => by cases h
  | a :: r, [], hl, x, _ => by simp at hl
  | a :: r, c :: q, hl, x, h => by
    simp only [List.zip_cons_cons]
    rcases List.mem_cons.1 h with rfl | h
    · exact ⟨c, List.mem_cons_self, List.mem_cons_self⟩
    · obtain ⟨y, h1, h2⟩ := zip_at (a := r) (b := q) (by simpa using hl) x h
      exact ⟨y, List.mem_cons_of_mem _ h1, List.mem_cons_of_mem _ h2⟩

theorem ckNames_at : ∀ (cks : List CK) (n c : Nat), ckOwn cks c = true → n + c ∈ ckNames cks n
  | [], n, c, h => by simp [ckOwn] at h
  | .own _ :: r, n, 0, _ => by simp [ckNames]
  | .own _ :: r, n, c + 1, h => by
    simp only [ckOwn] at h
    have := ckNames_at r (n + 1) c h
    simp only [ckNames]
    exact List.mem_cons_of_mem _ (by rwa [show n + (c + 1) = n + 1 + c by omega])
  | .val _ :: r, n, 0, h => by simp [ckOwn] at h
  | .val _ :: r, n, c + 1, h => by
    simp only [ckOwn] at h
    have := ckNames_at r (n + 1) c h
    simp only [ckNames]
    rwa [show n + (c + 1) = n + 1 + c by omega]
theorem boxNames_at : ∀ (bs : List BK) (is : List Nat) (n b i : Nat) (bk : BK), is.length = bs.length → bs[b]? = some bk → i ∈ ckNames bk.cks (n + 16 * b) → i ∈ boxNames bs is n
  | [], _, _, b, _, _, _, h, _ => by simp at h
  | _ :: _, [], _, _, _, _, hl, _, _ => by simp at hl
  | b0 :: r, i0 :: is, n, 0, i, bk, hl, hb, hi => by
    simp only [List.getElem?_cons_zero, Option.some.injEq] at hb
    subst hb
    simp only [boxNames]
    exact List.mem_cons_of_mem _ (List.mem_append_left _ (by simpa using hi))
  | b0 :: r, i0 :: is, n, b + 1, i, bk, hl, hb, hi => by
    simp only [List.getElem?_cons_succ] at hb
    simp only [boxNames]
    refine List.mem_cons_of_mem _ (List.mem_append_right _ (boxNames_at r is (n + 16) b i bk (by simpa using hl) hb ?_))
    rwa [show n + 16 + 16 * b = n + 16 * (b + 1) by omega]
theorem encRes_ment {p : Nat → Prop} {bs : List BK} {is : List Nat} (hl : is.length = bs.length) : ∀ (rs : List RK) (ids : List Nat) (n m : Nat) (y : RTs rs), rsOk bs rs = true → (∀ i ∈ resNames rs m, p i) → (∀ i ∈ boxNames bs is n, p i) → MentL p (encRes rs ids n m y)
  | [], _, _, _, _, _, _, _ => by simp only [encRes, MentL]
  | .val k :: r, ids, n, m, y, hr, h1, h2 => by
    simp only [rsOk, List.all_cons, Bool.and_eq_true, rkOk] at hr
    simp only [encRes, MentL]
    exact ⟨encV_ment p k y.1, encRes_ment hl r ids n (m + 1) y.2 hr.2 (fun i hi => h1 i hi) h2⟩
  | .own _ :: r, ids, n, m, y, hr, h1, h2 => by
    simp only [rsOk, List.all_cons, Bool.and_eq_true, rkOk] at hr
    simp only [encRes, MentL, Ment]
    exact ⟨h1 m (by simp [resNames]), encRes_ment hl r ids n (m + 1) y.2 hr.2 (fun i hi => h1 i (by simp only [resNames]; exact List.mem_cons_of_mem _ hi)) h2⟩
  | .eptr b alts :: r, ids, n, m, y, hr, h1, h2 => by
    simp only [rsOk, List.all_cons, Bool.and_eq_true, rkOk] at hr
    simp only [encRes, MentL]
    refine ⟨?_, encRes_ment hl r ids n (m + 1) y.2 hr.2 (fun i hi => h1 i hi) h2⟩
    cases hy : y.1 with
    | none => simp only [eptrV, Ment]
    | some p =>
      obtain ⟨al, i⟩ := p
      simp only [eptrV, Ment]
      cases hb : bs[b]? with
      | none => rw [hb] at hr; exact absurd hr.1 (by simp)
      | some bk =>
        rw [hb] at hr
        simp only [Bool.and_eq_true] at hr
        exact h2 _ (boxNames_at bs is n b _ bk hl hb (ckNames_at bk.cks (n + 16 * b) _ (List.all_eq_true.1 hr.1.1 _ (List.get_mem alts al))))
  | .agg c :: r, ids, n, m, y, hr, h1, h2 => by
    simp only [rsOk, List.all_cons, Bool.and_eq_true, rkOk] at hr
    simp only [encRes, MentL, Ment]
    refine ⟨encCells_ment c m y.1 fun e he => h1 _ ?_, encRes_ment hl r ids n (m + 1) y.2 hr.2 (fun i hi => h1 i (by simp only [resNames]; exact List.mem_append_right _ hi)) h2⟩
    simp only [resNames]
    have e1 : (encRows c m y.1).map (·.1) = ckNames c m := encRows_names c m y.1
    exact List.mem_append_left _ (e1 ▸ List.mem_map.2 ⟨e, he, rfl⟩)
theorem tupOf_ment {p : Nat → Prop} {vs : List AV} (h : MentL p vs) : Ment p (tupOf vs) := by
  match vs, h with
  | [], h => simp only [tupOf, Ment]; exact h
  | [v], h => simp only [tupOf]; simp only [MentL] at h; exact h.1
  | _ :: _ :: _, h => simp only [tupOf, Ment]; exact h

/-- A function that is told apart: what it does to the heap, it does. -/
def XSound (P : Program) (f : FuncId) (u : Heap → Nat → List AV → Option (Bool × Eff)) : Prop :=
  ∀ {Z : Nat → Prop} {ψ : Nat → Value} {h : Hp} {w : World} {B0 : Nat} {O N : Nat → Prop} {hh : Heap} {id : Nat} {e : Eff} {vs : List AV} {us : List Value},
    Good Z ψ h w B0 O → B0 ≤ w.heap.size → (∀ id o, hh.get id = some o → h id = some o) → (∀ j, j < 256 → N (id + j)) → (∀ i ty cs, h i = some (.box ty cs) → MentL (fun i => ¬ N i) cs) → (∀ v hw, e = .wr v hw → hh.get = h) →
    RepL Z ψ h w vs us → MentL (fun i => ¬ N i) vs → u hh id vs = some (true, e) →
    Calls P f us.toArray w fun en w' => ∃ V Z' ψ', en = .returned V ∧ Next Z ψ h w B0 O N Z' ψ' (e.hp h) w' ∧ Rep Z' ψ' (e.hp h) w' e.v V

theorem finE_eq {R : Type} {n : Nat} (a : Fin n) (f : Fin n → Option R) : finE n a f = f a := by
  have key : ∀ l : List (Fin n), a ∈ l → l.foldr (fun j r => cond (a.val == j.val) (f j) r) none = f a := by
    intro l
    induction l with
    | nil => intro h; cases h
    | cons j r ih =>
      intro h
      simp only [List.foldr_cons]
      by_cases e : a = j
      · subst e; simp
      · have : (a.val == j.val) = false := by simp only [beq_eq_false_iff_ne, ne_eq]; exact fun h => e (Fin.ext h)
        rw [this, cond_false]
        rcases List.mem_cons.1 h with h | h
        · exact absurd h e
        · exact ih h
  exact key _ (List.mem_finRange a)
theorem splitE_eq {R : Type} : ∀ (rs : List RK) (x : RTs rs) (K : RTs rs → Option R), splitE rs x K = K x
  | [], _, _ => rfl
  | .val _ :: r, x, K => by simp only [splitE]; rw [splitE_eq r x.2]; rfl
  | .own _ :: r, x, K => by simp only [splitE]; rw [splitE_eq r x.2]; rfl
  | .agg _ :: r, x, K => by simp only [splitE]; rw [splitE_eq r x.2]; rfl
  | .eptr _ alts :: r, x, K => by
    simp only [splitE]
    obtain ⟨x1, x2⟩ := x
    cases x1 with
    | none => simp only [optE]; rw [splitE_eq r x2]
    | some p => simp only [optE]; rw [finE_eq, splitE_eq r x2]

theorem call_sound (hX : ∀ f g u, Sg f = some g → g.x = some u → XSound P (f % 1000) u) (hF : ∀ f g x y, Sg f = some g → F f g x = some y → Con P f g x y) (hcal : ∀ f g, Sg f = some g → Callable P (f % 1000))
    {hh : Heap} {ρC : Operand → Value} {o : Oper} (g : Good Z ψ h w B0 O) (hB : B0 ≤ w.heap.size) (hsub : ∀ id o, hh.get id = some o → h id = some o) {id : Nat} (hN : ∀ j, j < 256 → N (id + j)) {e : Eff}
    (hment : ∀ i ty cs, h i = some (.box ty cs) → MentL (fun i => ¬ N i) cs) (hwr : ∀ v hw, e = .wr v hw → hh.get = h) {f : FuncId} {cap vs : List AV} {fv : Value} {us : List Value}
    (hfv : Rep Z ψ h w (.fn f cap) fv) (hvs : RepL Z ψ h w vs us) (hms : MentL (fun i => ¬ N i) (vs ++ cap)) (hex : ∀ (ws : Array Value), fv = .func (.func f) #[] ws → execOp ρC o = callFunc f (us.toArray ++ ws))
    (he : opCall Sg F hh id f (vs ++ cap) some = some e) : DoneC P ρC o Z ψ h w B0 O N e := by
  unfold opCall at he
  split at he
  · cases he
  rename_i gg hSg
  simp only [Rep] at hfv
  obtain ⟨ws, rfl, hws⟩ := hfv
  have hcall := hcal _ _ hSg
  have hargs : RepL Z ψ h w (vs ++ cap) (us ++ ws.toList) := RepL.append hvs hws
  have hargs' : RepL Z ψ hh.get w (vs ++ cap) (us ++ ws.toList) := hargs.subH hsub
  have gs : Good Z ψ hh.get w B0 O := g.sub hsub
  have harr : us.toArray ++ ws = (us ++ ws.toList).toArray := by simp
  split at he
  · rename_i u hu
    split at he
    · rename_i hf
      obtain ⟨⟨b, e'⟩, he1, he2⟩ := Option.bind_eq_some_iff.1 he
      cases b with
      | false => cases he2
      | true =>
      cases he2
      have hmod : keyOf Sg f (vs ++ cap) % 1000 = f := by rw [keyOf_mod]; exact Nat.mod_eq_of_lt hf
      have hx : XSound P f u := by rw [← hmod]; exact hX _ _ _ hSg hu
      rw [hmod] at hcall
      refine ⟨f, us.toArray ++ ws, by rw [hex ws rfl]; exact run_callFunc hcall _, ?_⟩
      rw [harr]
      exact hx g hB hsub hN hment hwr hargs hms he1
    · cases he
  split at he
  · rename_i i0 hids hconds
    split at he
    · rename_i hemp
      simp only [Bool.and_eq_true, List.isEmpty_iff] at hemp
      obtain ⟨rfl, _⟩ := hemp
      split at he
      rotate_left
      · cases he
      rename_i x b hx hb hplain
      obtain ⟨y, hy, he⟩ := Option.bind_eq_some_iff.1 he
      simp only [sigOk, Bool.and_eq_true, decide_eq_true_eq] at hconds
      obtain ⟨_, _, ⟨hlen, hf⟩, _⟩ := hconds
      have hcon := (hF _ _ _ _ hSg hy).zero (boxesIn_nil hb)
      have hmod : keyOf Sg f (vs ++ cap) % 1000 = f := by rw [keyOf_mod]; exact Nat.mod_eq_of_lt hf
      rw [hmod] at hcall
      have hN' : ∀ j, j < gg.rs.length + 16 → N (id + 128 + j) := fun j hj => by rw [Nat.add_assoc]; exact hN _ (by omega)
      refine ⟨f, us.toArray ++ ws, by rw [hex ws rfl]; exact run_callFunc hcall _, ?_⟩
      rw [harr]
      unfold Con0 at hcon
      rw [hmod] at hcon
      by_cases hno : noOsls (vs ++ cap) = true
      · rw [hno, Bool.or_true] at he
        cases he
        have h1 : RepL Z NoV NoHeap w (args0 gg x) (us ++ ws.toList) := args_rep gs (fun _ h => h) gg.ps 0 _ _ x (fun v hv i b hi _ _ => (noOsls_spec hno v hv i hi).elim) hids hx hargs'
        refine (hcon Z w _ g.zlt h1).mono fun en w' ⟨v, Z', ψ', e1, h2, h3, h4, h5, h6⟩ => ?_
        obtain ⟨ψ'', n, hr⟩ := call_next (nb := id) hplain g hB hment hN' h4 h2 h3 h5 h6
        exact ⟨v, Z', ψ'', e1, n, hr⟩
      · cases hfl : gg.rs.all RK.flat with
        | true =>
          rw [hfl, Bool.true_or] at he
          cases he
          let Zc : Nat → Prop := fun b => b < w.heap.size
          have h1 : RepL Zc NoV NoHeap w (args0 gg x) (us ++ ws.toList) := args_rep gs g.zlt gg.ps 0 _ _ x (fun v hv i b hi h1 h2 => gs.own_lt ⟨i, h1, h2⟩) hids hx hargs'
          refine (hcon Zc w _ (fun _ h => h) h1).mono fun en w' ⟨v, Z', ψ', e1, h2, h3, h4, h5, h6⟩ => ?_
          have hrows := rows_flat gg.rs 3000 y.1 hfl hplain
          have h7 : Rep Z ψ' (encResRows gg.rs 3000 y.1).get w' (tupOf (encRes gg.rs [] 2000 3000 y.1)) v := tupOf_move rfl (fun vs hvs => res_flat gg.rs hfl hplain hvs) h6
          have gz : Good Z ψ' (encResRows gg.rs 3000 y.1).get w' w.heap.size (fun _ => False) := by
            rw [hrows]
            exact ⟨fun _ _ _ hb => by simp [Heap.get] at hb, fun _ _ _ hb => by simp [Heap.get] at hb, fun _ _ hb => by simp [Heap.get] at hb, fun _ _ _ hb => by simp [Heap.get] at hb, fun b hb => Nat.lt_of_lt_of_le (g.zlt b hb) h4.size⟩
          obtain ⟨ψ'', n, hr⟩ := call_next (nb := id) hplain g hB hment hN' h4 (fun _ h => h) (fun _ h => .inl h) gz h7
          exact ⟨v, Z, ψ'', e1, n, hr⟩
        | false =>
          rw [hfl, Bool.false_or, Bool.eq_false_iff.2 hno] at he
          cases he
          have heq := hwr _ _ rfl
          subst heq
          let cs := argCells gg.ps (vs ++ cap)
          have hz0 : ∀ b, Zof Z ψ hh.get cs b → Z b ∨ Own ψ hh.get b := fun b hb => hb.imp (fun h => h) (fun ⟨i, _, h2, h3⟩ => ⟨i, h2, h3⟩)
          have gd : Good (Zof Z ψ hh.get cs) ψ (drops hh cs).get w B0 O := drops_good g cs
          have h1 : RepL (Zof Z ψ hh.get cs) NoV NoHeap w (args0 gg x) (us ++ ws.toList) :=
            args_rep gs (fun _ h => .inl h) gg.ps 0 _ _ x (fun v hv i b hi h1 h2 => .inr ⟨i, argCells_mem _ _ hids v hv i hi, h1, h2⟩) hids hx hargs'
          refine (hcon _ w _ gd.zlt h1).mono fun en w' ⟨v, Z', ψ', e1, h2, h3, h4, h5, h6⟩ => ?_
          obtain ⟨ψ'', n, hr⟩ := call_next (nb := id) hplain gd hB (fun i ty cs hb => hment i ty cs (drops_sub _ _ _ _ hb)) hN' h4 h2 h3 h5 h6
          have e2 : (Eff.wr (tupOf (encRes gg.rs [] id (id + 128) y.1)) (encResRows gg.rs (id + 128) y.1 ++ drops hh (argCells gg.ps (vs ++ cap)))).hp hh.get = (fun i => match (encResRows gg.rs (id + 128) y.1).get i with | some o => some o | none => (drops hh cs).get i) := by
            funext i
            simp only [Eff.hp]
            rw [Heap.get_append]
            cases (encResRows gg.rs (id + 128) y.1).get i <;> rfl
          rw [e2]
          exact ⟨v, Z', ψ'', e1, n.drop (fun _ h => .inl h) hz0 (drops_sub _ _), hr⟩
    · split at he
      rotate_left
      · cases he
      rename_i x b hx hb hchk
      obtain ⟨y, hy, he⟩ := Option.bind_eq_some_iff.1 he
      rw [splitE_eq] at he
      cases he
      have heq := hwr _ _ rfl
      subst heq
      simp only [sigOk, Bool.and_eq_true, decide_eq_true_eq] at hconds
      obtain ⟨hrs, ⟨hbl, hcl⟩, ⟨hlen, hf⟩, hout⟩ := hconds
      rw [Bool.and_eq_true] at hchk
      have hcon := hF _ _ _ _ hSg hy
      have hmod : keyOf Sg f (vs ++ cap) % 1000 = f := by rw [keyOf_mod]; exact Nat.mod_eq_of_lt hf
      rw [hmod] at hcall
      refine ⟨f, us.toArray ++ ws, by rw [hex ws rfl]; exact run_callFunc hcall _, ?_⟩
      rw [harr]
      unfold Con at hcon
      rw [hmod] at hcon
      have hl : i0.length = gg.bs.length := (boxesIn_some _ _ _ hb).1
      have hsome := (boxesIn_some _ _ _ hb).2
      have hle : (entryIds gg.bs.length).length = gg.bs.length := by simp [entryIds]
      let frz := argCells gg.ps (vs ++ cap) ++ boxFrz gg.bs hh i0
      let L1 : List Ent := boxEnts gg.bs hh i0 (entryIds gg.bs.length) 2000 b
      have eH1 : entH L1 = boxesOut gg.bs (entryIds gg.bs.length) 2000 b := boxEnts_heap _ _ _ _ _ _ hb hle
      have eN1 : L1.map (·.1) = boxNames gg.bs (entryIds gg.bs.length) 2000 := boxEnts_names _ _ _ _ _ _ hb hle
      have eS1 : L1.filterMap (·.2.1) = boxKept gg.bs hh i0 := boxEnts_src _ _ _ _ _ _ hb hle
      have hn1 : nodupB (L1.map (·.1)) = true := by rw [eN1]; exact nodupB_left hout
      have hψ1 := ents_ψ (ψ := ψ) hn1
      have hkd := (kept_spec hchk.1).2 hh
      have hz1 : ∀ b, Z b → Zof Z ψ hh.get frz b := fun b hb => .inl hb
      have hok1 : ∀ e ∈ L1, EntOk (Zof Z ψ hh.get frz) ψ (drops hh frz).get w (entH L1).get (entψ ψ L1) e := fun e he =>
        boxEnts_ok gs hz1 gg.bs _ _ 2000 b hb (fun i b hid h1 h2 => .inr ⟨i, List.mem_append_right _ hid, h1, h2⟩) hkd hψ1 e he
      have gin : Good (Zof Z ψ hh.get frz) (entψ ψ L1) (entH L1).get w B0 O := move_good gs hchk.1 hn1 eS1 hok1
      have ein : (entH L1).get = inH gg (x, b) := by rw [eH1]; rfl
      have hzip : ∀ p ∈ i0.zip (entryIds gg.bs.length), (p.2, some p.1) ∈ L1.map (fun e => (e.1, e.2.1)) := fun p hp => by
        obtain ⟨o, ho⟩ := boxEnts_zip (hh := hh) gg.bs i0 (entryIds gg.bs.length) 2000 b hl p hp
        exact List.mem_map.2 ⟨_, ho, rfl⟩
      have hzψ : ∀ p ∈ i0.zip (entryIds gg.bs.length), entψ ψ L1 p.2 = ψ p.1 := fun p hp => by
        obtain ⟨⟨i, s, o⟩, ho, he⟩ := List.mem_map.1 (hzip p hp)
        cases he
        exact entψ_mem hn1 ho
      have hargs2 : RepL (Zof Z ψ hh.get frz) (entψ ψ L1) (entH L1).get w (argsAV gg (x, b)) (us ++ ws.toList) :=
        args_rep2 gs hz1 gg.ps i0 (entryIds gg.bs.length) 0 _ _ x (by rw [hle, hl]) hids hx (fun i b hid h1 h2 => .inr ⟨i, List.mem_append_left _ hid, h1, h2⟩)
          (fun p hp => ⟨hsome _ (List.of_mem_zip hp).1, fun _ => hzψ p hp⟩) hargs'
      have hown : ∀ c, Own (entψ ψ L1) (inH gg (x, b)) c → ∃ s, s ∈ boxKept gg.bs hh i0 ∧ hh.get s ≠ none ∧ ob (ψ s) = some c := fun c ⟨i, h1, h2⟩ => by
        rw [← ein] at h1
        obtain ⟨o, ho⟩ := Option.ne_none_iff_exists'.1 h1
        obtain ⟨s, hm⟩ := entH_mem ho
        rw [entψ_mem hn1 hm] at h2
        cases s with
        | none => simp [srcVal, ob] at h2
        | some s =>
          have hs : s ∈ boxKept gg.bs hh i0 := by rw [← eS1]; exact List.mem_filterMap.2 ⟨_, hm, rfl⟩
          refine ⟨s, hs, ?_, h2⟩
          have h3 := hok1 _ hm
          rw [← hkd s hs]
          cases o with
          | box ty cs => obtain ⟨⟨cs0, h4⟩, _⟩ := h3; rw [h4]; simp
          | own ok xs => rw [show (drops hh frz).get s = some (.own ok xs) from h3]; simp
      refine (hcon (Zof Z ψ hh.get frz) (entψ ψ L1) w (us ++ ws.toList) (by rw [← ein]; exact gin.ownself _) (by rw [← ein]; exact hargs2)).mono fun en w' ⟨v, Z', ψ2, e1, h2, h3, h4, h5, h6, h7⟩ => ?_
      obtain ⟨L2, eH2, eN2, g3, hzz, hrep⟩ := call_back (x := (x, b)) (y := y) (id := id) hl hrs hout hchk.2 h5 h7
      have hm2 : ∀ i ty cs, (entH L2).get i = some (.box ty cs) → MentL (fun j => (entH L2).get j ≠ none) cs := fun i ty cs hg => by
        have hmem := get_mem hg
        rw [eH2] at hmem
        rcases List.mem_append.1 hmem with hmem | hmem
        · exact boxesOut_ment gg.bs _ id y.2 (fun e he => by rw [eH2]; exact mem_get (o := e.2) (List.mem_append_left _ he)) i ty cs hmem
        · exfalso
          have : ∀ (rs : List RK) (m : Nat) (y : RTs rs), (i, Ob.box ty cs) ∉ encResRows rs m y := by
            intro rs
            induction rs with
            | nil => intro m y; simp [encResRows]
            | cons r rs ih =>
              intro m y
              cases r with
              | agg c => simp only [encResRows, List.mem_append, not_or]; exact ⟨encRows_row _ _ _ _ _ _, ih (m + 1) y.2⟩
              | val k => exact ih (m + 1) y.2
              | eptr _ _ => exact ih (m + 1) y.2
              | own ok => simp only [encResRows, List.mem_cons, not_or]; exact ⟨by simp, ih (m + 1) y.2⟩
          exact this _ _ _ hmem
      have hids2 : ∀ i, (entH L2).get i ≠ none → (i ∈ boxKept gg.bs hh i0 ∧ hh.get i ≠ none ∧ entψ ψ2 L2 i = ψ i) ∨ N i := fun i hi => by
        obtain ⟨o, ho⟩ := Option.ne_none_iff_exists'.1 hi
        obtain ⟨s, hm⟩ := entH_mem ho
        have hmem : i ∈ boxNames gg.bs i0 id ++ resNames gg.rs (id + 128) := by rw [← eN2]; exact List.mem_map.2 ⟨_, hm, rfl⟩
        have hNr : ∀ i, id ≤ i → i < id + 256 → N i := fun i h1 h2 => by
          have := hN (i - id) (by omega)
          rwa [show id + (i - id) = i by omega] at this
        rcases List.mem_append.1 hmem with hmem | hmem
        · rcases boxNames_mem _ _ _ _ hcl hmem with h8 | h8
          · refine .inl ⟨boxKept_ids _ _ _ hl h8, hsome i h8, ?_⟩
            obtain ⟨ee, h9, h10⟩ := zip_at (by rw [hle, hl]) i h8
            rw [hzz (ee, i) h10]
            have h11 : ee ∈ entryIds gg.bs.length := (List.of_mem_zip h10).1
            rw [h6 ee h11]
            exact hzψ (i, ee) h9
          · exact .inr (hNr i h8.1 (by omega))
        · have h8 := resNames_mem _ _ _ hrs hmem
          exact .inr (hNr i (by omega) (by omega))
      obtain ⟨ψ4, h8, nx⟩ := join_next (N := N) gs hB hkd hment hown h2 h3 h4 g3 hm2 hids2
      have eH3 : (Eff.wr (tupOf (encRes gg.rs i0 id (id + 128) y.1)) (boxesOut gg.bs i0 id y.2 ++ (encResRows gg.rs (id + 128) y.1 ++ dels (drops hh (argCells gg.ps (vs ++ cap) ++ boxFrz gg.bs hh i0)) (boxKept gg.bs hh i0)))).hp hh.get =
          (entH L2 ++ dels (drops hh frz) (boxKept gg.bs hh i0)).get := by
        rw [eH2, List.append_assoc]; rfl
      rw [eH3]
      refine ⟨v, Z', ψ4, e1, nx, ?_⟩
      refine hrep.move (p := fun j => (entH L2).get j ≠ none) (fun _ h => h) (Same.refl _ _) (fun j hp _ => ⟨hp, h8 j hp⟩) ?_
      refine tupOf_ment (encRes_ment hl gg.rs _ id (id + 128) y.1 hrs (fun i hi => ?_) fun i hi => ?_)
      · rw [← resRows_names gg.rs (id + 128) y.1] at hi
        obtain ⟨e, he, rfl⟩ := List.mem_map.1 hi
        rw [eH2]; exact mem_get (o := e.2) (List.mem_append_right _ he)
      · rw [← boxesOut_names gg.bs i0 id y.2 hl] at hi
        obtain ⟨e, he, rfl⟩ := List.mem_map.1 hi
        rw [eH2]; exact mem_get (o := e.2) (List.mem_append_left _ he)
  · cases he
end Go.Vs

set_option linter.unusedSimpArgs false
set_option linter.unusedVariables false
namespace Go.Vs
variable {P : Program} {Eqs : TypeId → Option K} {Sg : FuncId → Option Sig} {F : (f : FuncId) → (g : Sig) → g.A → Option g.B} {R : Type} {k : Eff → Option R}

theorem cond_bind {c : Bool} {e : Eff} : cond c (k e) none = (cond c (some e) none).bind k := by cases c <;> rfl
theorem cond_bind' {c : Bool} {e : Eff} : cond c none (k e) = (cond c none (some e)).bind k := by cases c <;> rfl
theorem cond_bind2 {c : Bool} {e e' : Eff} : cond c (k e) (k e') = (cond c (some e) (some e')).bind k := by cases c <;> rfl
theorem bind_bind {α : Type} (o : Option α) (f : α → Option R) (g : α → Option Eff) (h : ∀ x, f x = (g x).bind k) : o.bind f = (o.bind g).bind k := by cases o with
  | none => rfl
  | some x => exact h x


theorem cps_append {h : Heap} {id : Nat} {t : TypeId} {s x : AV} : opAppend P h id t s x k = (opAppend P h id t s x some).bind k := by unfold opAppend; repeat' (first | rfl | exact cond_bind | exact cond_bind' | exact cond_bind2 | (refine bind_bind _ _ _ (fun _ => ?_)) | split)
theorem cps_store {h : Heap} {t : TypeId} {s x : AV} : opStore P h t s x k = (opStore P h t s x some).bind k := by unfold opStore; repeat' (first | rfl | exact cond_bind | exact cond_bind' | exact cond_bind2 | (refine bind_bind _ _ _ (fun _ => ?_)) | split)
theorem cps_load {h : Heap} {t : TypeId} {s : AV} : opLoad P h t s k = (opLoad P h t s some).bind k := by unfold opLoad; repeat' (first | rfl | exact cond_bind | exact cond_bind' | exact cond_bind2 | (refine bind_bind _ _ _ (fun _ => ?_)) | split)
theorem cps_indexAddr {h : Heap} {t : TypeId} {s x : AV} : opIndexAddr P h t s x k = (opIndexAddr P h t s x some).bind k := by unfold opIndexAddr; repeat' (first | rfl | exact cond_bind | exact cond_bind' | exact cond_bind2 | (refine bind_bind _ _ _ (fun _ => ?_)) | split)
theorem cps_cutS {x : AV} {lo hi mx : Option AV} : opCutS x lo hi mx k = (opCutS x lo hi mx some).bind k := by unfold opCutS; repeat' (first | rfl | exact cond_bind | exact cond_bind' | exact cond_bind2 | (refine bind_bind _ _ _ (fun _ => ?_)) | split)
theorem cps_slice {h : Heap} {sz : Nat} {x : AV} {lo hi mx : Option AV} : opSlice h sz x lo hi mx k = (opSlice h sz x lo hi mx some).bind k := by unfold opSlice; repeat' (first | rfl | exact cond_bind | exact cond_bind' | exact cond_bind2 | (refine bind_bind _ _ _ (fun _ => ?_)) | split)
theorem cps_len {h : Heap} {x : AV} : opLen h x k = (opLen h x some).bind k := by unfold opLen; repeat' (first | rfl | exact cond_bind | exact cond_bind' | exact cond_bind2 | (refine bind_bind _ _ _ (fun _ => ?_)) | split)
theorem cps_bin {op : BinOp} {t : TypeId} {x y : AV} : opBin P Eqs op t x y k = (opBin P Eqs op t x y some).bind k := by unfold opBin; repeat' (first | rfl | exact cond_bind | exact cond_bind' | exact cond_bind2 | (refine bind_bind _ _ _ (fun _ => ?_)) | split)
theorem splitE_bind (rs : List RK) (x : RTs rs) (f : RTs rs → Option R) (g : RTs rs → Option Eff) (h : ∀ z, f z = (g z).bind k) : splitE rs x f = (splitE rs x g).bind k := by rw [splitE_eq, splitE_eq]; exact h x
theorem cps_call {h : Heap} {id : Nat} {f : FuncId} {vs : List AV} : opCall Sg F h id f vs k = (opCall Sg F h id f vs some).bind k := by unfold opCall; repeat' (first | rfl | exact cond_bind | exact cond_bind' | exact cond_bind2 | (refine bind_bind _ _ _ (fun _ => ?_)) | (refine splitE_bind _ _ _ _ (fun _ => ?_)) | split)
theorem cps_make {id : Nat} {t : TypeId} {vs : List AV} : opMake id t vs k = (opMake id t vs some).bind k := rfl
theorem cps_build {t : TypeId} {ps : List (Nat × AV)} : opBuild P t ps k = (opBuild P t ps some).bind k := by unfold opBuild; repeat' (first | rfl | exact cond_bind | exact cond_bind' | exact cond_bind2 | (refine bind_bind _ _ _ (fun _ => ?_)) | split)
theorem cps_lit {h : Heap} {id : Nat} {t : TypeId} {n : Nat} {ps : List (Nat × AV)} : opLit P h id t n ps k = (opLit P h id t n ps some).bind k := by unfold opLit; repeat' (first | rfl | exact cond_bind | exact cond_bind' | exact cond_bind2 | (refine bind_bind _ _ _ (fun _ => ?_)) | split)
theorem cps_litF {frz : Bool} {h : Heap} {id : Nat} {t : TypeId} {n : Nat} {ps : List (Nat × AV)} : opLitF P frz h id t n ps k = (opLitF P frz h id t n ps some).bind k := by
  unfold opLitF
  rw [cps_lit, cps_lit (k := fun e => some (if frz then frzE e else e)), Option.bind_assoc]
  rfl
theorem cps_conv {s d : TypeId} {x : AV} : opConv P s d x k = (opConv P s d x some).bind k := by unfold opConv; repeat' (first | rfl | exact cond_bind | exact cond_bind' | exact cond_bind2 | (refine bind_bind _ _ _ (fun _ => ?_)) | split)
theorem cps_mm {b : Bool} {vs : List AV} : opMM b vs k = (opMM b vs some).bind k := by unfold opMM; repeat' (first | rfl | exact cond_bind | exact cond_bind' | exact cond_bind2 | (refine bind_bind _ _ _ (fun _ => ?_)) | split)

theorem cps_lenM {h : Heap} {x : AV} : opLenM h x k = (opLenM h x some).bind k := by unfold opLenM; repeat' (first | rfl | exact cond_bind | exact cond_bind' | exact cond_bind2 | (refine bind_bind _ _ _ (fun _ => ?_)) | split)
theorem cps_makeMap {id : Nat} {t : TypeId} : opMakeMap P Eqs id t k = (opMakeMap P Eqs id t some).bind k := by unfold opMakeMap; repeat' (first | rfl | exact cond_bind | exact cond_bind' | exact cond_bind2 | (refine bind_bind _ _ _ (fun _ => ?_)) | split)
theorem cps_lookup {h : Heap} {t : TypeId} {m i : AV} {ok : Bool} : opLookup P Eqs h t m i ok k = (opLookup P Eqs h t m i ok some).bind k := by unfold opLookup; repeat' (first | rfl | exact cond_bind | exact cond_bind' | exact cond_bind2 | (refine bind_bind _ _ _ (fun _ => ?_)) | split)
theorem cps_update {h : Heap} {t : TypeId} {m i v : AV} : opMapUpdate P Eqs h t m i v k = (opMapUpdate P Eqs h t m i v some).bind k := by unfold opMapUpdate; repeat' (first | rfl | exact cond_bind | exact cond_bind' | exact cond_bind2 | (refine bind_bind _ _ _ (fun _ => ?_)) | split)
theorem cps_delete {h : Heap} {t : TypeId} {m i : AV} : opDelete P Eqs h t m i k = (opDelete P Eqs h t m i some).bind k := by unfold opDelete; repeat' (first | rfl | exact cond_bind | exact cond_bind' | exact cond_bind2 | (refine bind_bind _ _ _ (fun _ => ?_)) | split)
theorem cps_rangeS {id : Nat} {t : TypeId} {x : AV} : opRangeS P id t x k = (opRangeS P id t x some).bind k := by unfold opRangeS; repeat' (first | rfl | exact cond_bind | exact cond_bind' | exact cond_bind2 | (refine bind_bind _ _ _ (fun _ => ?_)) | split)
theorem cps_nextS {h : Heap} {x : AV} : opNextS h x k = (opNextS h x some).bind k := by unfold opNextS; repeat' (first | rfl | exact cond_bind | exact cond_bind' | exact cond_bind2 | (refine bind_bind _ _ _ (fun _ => ?_)) | split)
theorem cps_entry {h : Heap} {x : AV} : opEntry h x k = (opEntry h x some).bind k := by unfold opEntry; repeat' (first | rfl | exact cond_bind | exact cond_bind' | exact cond_bind2 | (refine bind_bind _ _ _ (fun _ => ?_)) | split)
theorem opSem_cps {id : Nat} {h : Heap} {s : List (Nat × AV)} {o : Oper} : opSem P Eqs Sg F id h s o k = (opSem P Eqs Sg F id h s o some).bind k := by
  obtain ⟨dst, op, type, pos, after, guard⟩ := o
  cases op <;> simp only [opSem] <;>
    repeat' (first | rfl | exact cps_litF | exact cps_append | exact cps_store | exact cps_load | exact cps_indexAddr | exact cps_cutS | exact cps_slice | exact cps_len | exact cps_bin | exact cps_call | exact cps_make | exact cps_build | exact cps_lit | exact cps_conv | exact cps_mm | exact cps_lenM | exact cps_makeMap | exact cps_lookup | exact cps_update | exact cps_delete | exact cps_rangeS | exact cps_nextS | exact cps_entry | exact cond_bind | (refine bind_bind _ _ _ (fun _ => ?_)) | split)
/-- Operations that touch no memory don't look at it. -/
theorem free_heap {id : Nat} {h h' : Heap} {s : List (Nat × AV)} {o : Oper} (hf : freeOp o.op = true) : opSem P Eqs Sg F id h s o k = opSem P Eqs Sg F id h' s o k := by
  obtain ⟨dst, op, type, pos, after, guard⟩ := o
  cases op <;> simp [freeOp] at hf <;> first | rfl | (rename_i u _ _; cases u <;> rfl)
theorem bin_val {op : BinOp} {t : TypeId} {x y : AV} {e : Eff} (he : opBin P Eqs op t x y some = some e) : ∃ v, e = .val v := by
  unfold opBin at he
  repeat' (first | (cases he; done) | exact ⟨_, (Option.some.inj he).symm⟩ | split at he)
  all_goals
    unfold cond at he
    split at he <;> first | (cases he; done) | exact ⟨_, (Option.some.inj he).symm⟩
theorem free_val {id : Nat} {h : Heap} {s : List (Nat × AV)} {o : Oper} {e : Eff} (hf : freeOp o.op = true) (he : opSem P Eqs Sg F id h s o some = some e) : ∃ v, e = .val v := by
  obtain ⟨dst, op, type, pos, after, guard⟩ := o
  cases op <;> simp only [freeOp] at hf <;> first | (cases hf; done) | skip
  case unOp u t x =>
    cases u <;> simp only [opSem] at he <;> repeat' (first | (cases he; done) | exact ⟨_, (Option.some.inj he).symm⟩ | split at he)
  case makeFunc fn first cap =>
    cases fn <;> simp only [opSem] at he <;> repeat' (first | (cases he; done) | exact ⟨_, (Option.some.inj he).symm⟩ | split at he)
  all_goals simp only [opSem] at he
  case binOp => exact bin_val he
  case build =>
    unfold opBuild at he
    repeat' (first | (cases he; done) | exact ⟨_, (Option.some.inj he).symm⟩ | split at he)
  all_goals
    repeat' (first | (cases he; done) | exact ⟨_, (Option.some.inj he).symm⟩ | split at he)
end Go.Vs

set_option linter.unusedSimpArgs false
set_option linter.unusedVariables false
namespace Go.Vs
variable {P : Program} {Eqs : TypeId → Option K} {Sg : FuncId → Option Sig} {F : (f : FuncId) → (g : Sig) → g.A → Option g.B} {R : Type}
variable {Z Z' Z0 : Nat → Prop} {ψ ψ' ψ0 : Nat → Value} {h h' : Hp} {w w' w0 : World} {B0 : Nat} {O N : Nat → Prop}

/-- What the functions that are called are known to do; what types may be compared. -/
structure Env (P : Program) (Eqs : TypeId → Option K) (Sg : FuncId → Option Sig) (F : (f : FuncId) → (g : Sig) → g.A → Option g.B) : Prop where
  eqs : ∀ t k, Eqs t = some k → EqFact P t k
  con : ∀ f g x y, Sg f = some g → F f g x = some y → Con P f g x y
  spec : ∀ f g u, Sg f = some g → g.x = some u → XSound P (f % 1000) u
  callable : ∀ f g, Sg f = some g → Callable P (f % 1000)

theorem map_repL {s : List (Nat × AV)} {ρC : Operand → Value} : ∀ (l : List Operand), (∀ x ∈ l, Rep Z ψ h w (ρ s x) (ρC x)) → RepL Z ψ h w (l.map (ρ s)) (l.map ρC)
  | [], _ => by simp [RepL]
  | x :: r, hx => by
    simp only [List.map_cons, RepL]
    exact ⟨_, _, rfl, hx x List.mem_cons_self, map_repL r fun y hy => hx y (List.mem_cons_of_mem _ hy)⟩

theorem map_mentL {s : List (Nat × AV)} {p : Nat → Prop} : ∀ (l : List Operand), (∀ x ∈ l, Ment p (ρ s x)) → MentL p (l.map (ρ s))
  | [], _ => by simp [MentL]
  | x :: r, hx => by
    simp only [List.map_cons, MentL]
    exact ⟨hx x List.mem_cons_self, map_mentL r fun y hy => hx y (List.mem_cons_of_mem _ hy)⟩
theorem op_wp (E : Env P Eqs Sg F) {hh : Heap} {a : Act} {s : List (Nat × AV)} {o : Oper} (g : Good Z ψ h w B0 O) (hB : B0 ≤ w.heap.size) (hsub : ∀ id o, hh.get id = some o → h id = some o) {id : Nat} (hN : makes o.op = true → ∀ j, j < 256 → N (id + j)) {e : Eff}
    (hρ : ∀ x ∈ o.op.operands, Rep Z ψ h w (ρ s x) (a.eval x)) (hm : ∀ x ∈ o.op.operands, Ment (fun i => ¬ N i) (ρ s x)) (hment : ∀ i ty cs, h i = some (.box ty cs) → MentL (fun i => ¬ N i) cs) (hwr : ∀ v hw, e = .wr v hw → hh.get = h)
    (he : opSem P Eqs Sg F id hh s o some = some e) {next : Act → World → Prop} {Q : Exit → Act → World → Prop}
    (hk : ∀ V w' Z' ψ', Next Z ψ h w B0 O N Z' ψ' (e.hp h) w' → Rep Z' ψ' (e.hp h) w' e.v V → next (a.put o.dst V) w') : o.wp P a w next Q := by
  have d : Done P a.eval o Z ψ h w B0 O N e ∨ DoneC P a.eval o Z ψ h w B0 O N e := by
    cases hfc : isFnCall o with
    | false => exact .inl (op_sound E.eqs g hB hsub (fun hm => by simpa using hN hm 0 (by decide)) hρ hm hment hwr hfc he)
    | true =>
      refine .inr ?_
      obtain ⟨dst, op, type, pos, after, guard⟩ := o
      cases op <;> simp [isFnCall] at hfc
      rename_i c
      obtain ⟨callee, args, argTypes⟩ := c
      cases callee <;> simp at hfc
      rename_i fo
      simp only [opSem] at he
      split at he
      · rename_i f cap hf
        simp only [Op.operands, Call.operands] at hρ
        have h1 := hρ fo (by simp)
        rw [hf] at h1
        have h2 : RepL Z ψ h w (args.toList.map (ρ s)) (args.toList.map a.eval) := map_repL _ fun x hx => hρ x (by simp; exact .inr (by simpa using hx))
        have hmf := hm fo (by simp [Op.operands, Call.operands])
        rw [hf] at hmf
        simp only [Ment] at hmf
        have hma : MentL (fun i => ¬ N i) (args.toList.map (ρ s)) := map_mentL _ fun x hx => hm x (by simp [Op.operands, Call.operands]; exact .inr (by simpa using hx))
        refine call_sound E.spec E.con E.callable g hB hsub (hN rfl) hment hwr h1 h2 (mentL_append hma hmf) (fun ws hws => ?_) he
        simp only [execOp, resolve, hws, Deferred.ofValue]
        simp only [pure_bind, invoke]
        congr 1
        apply Array.ext'
        simp
      · cases he
  unfold Oper.wp
  rcases d with ⟨V, w', Z', ψ', h1, h2, h3⟩ | ⟨f, args, h1, h2⟩
  · rcases h1 with h1 | ⟨h1, rfl⟩
    · rw [h1]; exact hk V w' Z' ψ' h2 h3
    · rw [h1]; exact hk undef w' Z' ψ' h2 h3
  · rw [h1, Oper.upon_enter]
    refine h2.mono fun en w' ⟨V, Z', ψ', e1, n, hr⟩ => ?_
    subst e1
    exact hk V w' Z' ψ' n hr

/-- What holds of a run since it began. -/
structure Ok (Z0 : Nat → Prop) (w0 : World) (O : Nat → Prop) (ψ0 : Nat → Value) (Z : Nat → Prop) (ψ : Nat → Value) (h : Hp) (w : World) : Prop where
  good : Good Z ψ h w w0.heap.size O
  zsub : ∀ b, Z0 b → Z b
  zfrom : ∀ b, Z b → Z0 b ∨ O b ∨ w0.heap.size ≤ b
  os : w.os = w0.os
  tape : w.tape = w0.tape
  output : w.output = w0.output
  size : w0.heap.size ≤ w.heap.size
  block : ∀ b, b < w0.heap.size → ¬ O b → w.heap[b]? = w0.heap[b]?
  fix : ∀ i, i < 2000 → h i ≠ none → ψ i = ψ0 i

theorem Ok.next (k : Ok Z0 w0 O ψ0 Z ψ h w) (hN : ∀ id, N id → 2000 ≤ id) (n : Next Z ψ h w w0.heap.size O N Z' ψ' h' w') : Ok Z0 w0 O ψ0 Z' ψ' h' w' := by
  have own : ∀ b, Own ψ h b → w0.heap.size ≤ b ∨ O b := fun b ⟨id, h1, h2⟩ => (k.good.live id b h1 h2).2
  refine ⟨n.good, fun b hb => n.zsub b (k.zsub b hb), fun b hb => ?_, n.keep.os.trans k.os, n.keep.tape.trans k.tape, n.keep.output.trans k.output, Nat.le_trans k.size n.keep.size, fun b hb ho => ?_, fun i hi hne => ?_⟩
  · rcases n.zfrom b hb with h1 | h1 | h1
    · exact k.zfrom b h1
    · exact .inr (own b h1).symm
    · exact .inr (.inr (Nat.le_trans k.size h1))
  · rw [n.keep.block b (Nat.lt_of_lt_of_le hb k.size) (fun h1 => (own b h1).elim (fun h2 => by omega) ho)]
    exact k.block b hb ho
  · rcases n.ids i hne with ⟨h1, h2⟩ | h1
    · rw [h2]; exact k.fix i hi h1
    · have := hN i h1; omega

/-- The temporaries of a frame. -/
structure TRep (Z : Nat → Prop) (ψ : Nat → Value) (h : Hp) (w : World) (n : Nat) (T : Nat → AV) (a : Act) : Prop where
  rep : ∀ d, Rep Z ψ h w (T d) (a.tmps.getD d undef)
  size : a.tmps.size = n
  defers : a.defers = []

theorem undef_rep : Rep Z ψ h w (.tup []) undef := by simp only [Rep, RepL]; exact ⟨#[], rfl, rfl⟩
def setT (T : Nat → AV) (d : Option Tmp) (v : AV) : Nat → AV := match d with
  | some d => upd T d v
  | none => T
theorem look_put (st : St) (d : Option Tmp) (v : AV) : look (st.put d v).tmps = setT (look st.tmps) d v := by
  cases d with
  | none => rfl
  | some d =>
    funext i
    simp only [St.put, look, setT, upd]
    by_cases e : i = d
    · subst e; simp
    · rw [if_neg (fun x => e x.symm), if_neg e]
theorem put_heap (st : St) (d : Option Tmp) (v : AV) : (st.put d v).heap = st.heap := by cases d <;> rfl
theorem look_same {T : List (Nat × AV)} {d : Nat} {v : AV} (hv : look T d = v) : upd (look T) d v = look T := by
  funext i
  unfold upd
  split
  · rename_i e; subst e; exact hv.symm
  · rfl

theorem getD_put {a : Act} {d : Nat} {v : Value} (hd : d < a.tmps.size) (i : Nat) : (a.put (some d) v).tmps.getD i undef = if i = d then v else a.tmps.getD i undef := by
  simp only [Act.put]
  by_cases e : i = d
  · subst e; simp [hd]
  · simp [e, Array.getElem?_setIfInBounds_ne (Ne.symm e)]
theorem put_size (a : Act) (d : Option Tmp) (v : Value) : (a.put d v).tmps.size = a.tmps.size := by cases d <;> simp [Act.put]
theorem put_defers (a : Act) (d : Option Tmp) (v : Value) : (a.put d v).defers = a.defers := by cases d <;> rfl

theorem TRep.put {n : Nat} {T : Nat → AV} {a : Act} {o : Oper} {x : AV} {V : Value} (t : TRep Z ψ h w n T a) (hd : dstsOk n o = true) (hx : Rep Z ψ h w x V) : TRep Z ψ h w n (setT T o.dst x) (a.put o.dst V) := by
  refine ⟨fun d => ?_, by rw [put_size]; exact t.size, by rw [put_defers]; exact t.defers⟩
  unfold dstsOk at hd
  split at hd
  · rename_i d0 hd0
    rw [hd0]
    rw [getD_put (by rw [t.size]; simpa using hd)]
    simp only [setT, upd]
    split
    · exact hx
    · exact t.rep d
  · rename_i hd0
    rw [hd0]; exact t.rep d
theorem TRep.next {n : Nat} {T : Nat → AV} {a : Act} (t : TRep Z ψ h w n T a) (g : Good Z ψ h w B0 O) (hn : Next Z ψ h w B0 O N Z' ψ' h' w') (hm : ∀ d, Ment (fun i => ¬ N i) (T d)) : TRep Z' ψ' h' w' n T a :=
  ⟨fun d => hn.rep g (hm d) (t.rep d), t.size, t.defers⟩

theorem eval_rep {n : Nat} {s : List (Nat × AV)} {a : Act} (t : TRep Z ψ h w n (look s) a) (x : Operand) : Rep Z ψ h w (ρ s x) (a.eval x) := by
  cases x with
  | tmp i => exact t.rep i
  | const v => exact ofVs_rep v
  | global g => simp only [ρ, Rep]
  | func f => simp only [ρ, Rep, RepL, Act.eval]; exact ⟨#[], rfl, rfl⟩
theorem ofVs_ment1 (p : Nat → Prop) (v : Value) : Ment p (ofVs v) := by
  cases v with
  | agg cs => simp only [ofVs, Ment]; exact ofV_mentL p _
  | _ => simp only [ofVs]; exact ofV_ment p _
theorem eval_ment {p : Nat → Prop} {s : List (Nat × AV)} (hm : ∀ d, Ment p (look s d)) (x : Operand) : Ment p (ρ s x) := by
  cases x with
  | tmp i => exact hm i
  | const v => exact ofVs_ment1 p v
  | global g => simp only [ρ, Ment]
  | func f => simp only [ρ, Ment, MentL]

/-! ### Names -/
/-- Of this region's names, those of operations in S. -/
def InS (rid : Nat) (S : Nat → Prop) (id : Nat) : Prop := id / 32768 = rid + 1 → S (id / 256 % 128)
/-- The names of one operation. -/
def Of (rid i id : Nat) : Prop := id / 256 = (rid + 1) * 128 + i
theorem Of.parts {rid i id : Nat} (hi : i < 128) (h : Of rid i id) : id / 32768 = rid + 1 ∧ id / 256 % 128 = i := by
  unfold Of at h
  constructor <;> omega
theorem Of.of {rid i id : Nat} (h : id / 32768 = rid + 1) (hi : id / 256 % 128 = i) : Of rid i id := by
  unfold Of; omega
theorem of_opId {rid i j : Nat} (hj : j < 256) : Of rid i (opId rid i + j) := by
  unfold Of opId; omega
theorem of_opId0 {rid i : Nat} : Of rid i (opId rid i) := by unfold Of opId; omega
theorem InS.not_of {rid i id : Nat} {S : Nat → Prop} (hi : i < 128) (hs : ¬ S i) (h : InS rid S id) : ¬ Of rid i id := fun ho => by
  obtain ⟨h1, h2⟩ := ho.parts hi
  have := h h1
  rw [h2] at this
  exact hs this
theorem idOk_ins {rid bits id : Nat} {S : Nat → Prop} (hb : ∀ j, bits.testBit j = true → S j) (h : idOk rid bits id = true) : InS rid S id := fun h1 => by
  unfold idOk at h
  simp only [Bool.or_eq_true, bne_iff_ne, ne_eq] at h
  exact hb _ (h.resolve_left (fun h2 => h2 h1))
mutual
theorem mentV_spec {rid bits : Nat} {S : Nat → Prop} (hb : ∀ j, bits.testBit j = true → S j) : ∀ {v : AV}, mentV rid bits v = true → Ment (InS rid S) v
  | .ref id s i off, h => by simp only [mentV] at h; simp only [Ment]; exact idOk_ins hb h
  | .osl id, h => by simp only [mentV] at h; simp only [Ment]; exact idOk_ins hb h
  | .fn f cap, h => by simp only [mentV] at h; simp only [Ment]; exact mentL_spec hb h
  | .agg cs, h => by simp only [mentV] at h; simp only [Ment]; exact mentL_spec hb h
  | .tup cs, h => by simp only [mentV] at h; simp only [Ment]; exact mentL_spec hb h
  | .no, _ => by simp only [Ment]
  | .bool _, _ => by simp only [Ment]
  | .int _ _, _ => by simp only [Ment]
  | .str _, _ => by simp only [Ment]
  | .nilp, _ => by simp only [Ment]
  | .nils, _ => by simp only [Ment]
  | .fp _ _ _, _ => by simp only [Ment]
  | .sl _ _ _, _ => by simp only [Ment]
  | .mp _ _ _, _ => by simp only [Ment]
theorem mentL_spec {rid bits : Nat} {S : Nat → Prop} (hb : ∀ j, bits.testBit j = true → S j) : ∀ {v : List AV}, mentL rid bits v = true → MentL (InS rid S) v
  | [], _ => by simp only [MentL]
  | v :: r, h => by
    simp only [mentL, Bool.and_eq_true] at h
    simp only [MentL]
    exact ⟨mentV_spec hb h.1, mentL_spec hb h.2⟩
end
theorem mentH_spec {rid bits : Nat} {S : Nat → Prop} (hb : ∀ j, bits.testBit j = true → S j) : ∀ {hh : Heap}, mentH rid bits hh = true → ∀ id o, hh.get id = some o → InS rid S id ∧ ∀ ty cs, o = .box ty cs → MentL (InS rid S) cs
  | [], _, id, o, hg => by simp [Heap.get] at hg
  | (i, ob) :: r, h, id, o, hg => by
    simp only [Heap.get] at hg
    split at hg
    · rename_i e
      subst e
      cases hg
      cases ob with
      | box ty cs =>
        simp only [mentH, Bool.and_eq_true] at h
        exact ⟨idOk_ins hb h.1.1, fun ty' cs' he => by cases he; exact mentL_spec hb h.1.2⟩
      | own ok xs =>
        simp only [mentH, Bool.and_eq_true] at h
        exact ⟨idOk_ins hb h.1, fun ty' cs' he => by cases he⟩
    · refine mentH_spec hb ?_ id o hg
      cases ob <;> simp only [mentH, Bool.and_eq_true] at h <;> exact h.2

/-- The heap behind an operation. -/
def Eff.heap (e : Eff) (h : Heap) : Heap := match e with
  | .wr _ h' => h'
  | e => e.h h
theorem Eff.heap_get (e : Eff) (hh : Heap) : (e.heap hh).get = e.hp hh.get := by
  cases e with
  | val v => rfl
  | new v os => funext i; simp only [Eff.heap, Eff.h, Eff.hp]; rw [Heap.get_append]; cases Heap.get os i <;> rfl
  | wr v h' => rfl

/-- Boxes in a heap speak of names in S alone. -/
def HMent (p : Nat → Prop) (h : Hp) : Prop := ∀ i ty cs, h i = some (.box ty cs) → MentL p cs

theorem wanted_rep {ops : Array Oper} {o : Oper} {n : Nat} {T : Nat → AV} {a : Act} (t : TRep Z ψ h w n T a) {j d : Nat} {want : Bool} (hg : o.guard = some (j, want)) (hd : (ops[j]?).bind (·.dst) = some d) {b : Bool} (hb : T d = .bool b) :
    Region.wanted o (yielded ops a.tmps) = (b == want) := by
  have h1 := t.rep d
  rw [hb] at h1
  simp only [Rep] at h1
  have h2 : a.tmps[d]? = some (.bool b) := by
    rw [Array.getD_eq_getD_getElem?] at h1
    cases e : a.tmps[d]? with
    | none => rw [e] at h1; simp [undef] at h1
    | some v => rw [e] at h1; simpa using h1
  unfold Region.wanted yielded
  rw [hg]
  simp only [hd, Option.bind_some, h2]
  cases b <;> cases want <;> rfl
theorem wanted_skip {ops : Array Oper} {o : Oper} {n : Nat} {T : Nat → AV} {a : Act} (t : TRep Z ψ h w n T a) {j d : Nat} {want : Bool} (hg : o.guard = some (j, want)) (hd : (ops[j]?).bind (·.dst) = some d) {vs : List AV} (hb : T d = .tup vs) :
    Region.wanted o (yielded ops a.tmps) = false := by
  have h1 := t.rep d
  rw [hb] at h1
  simp only [Rep] at h1
  obtain ⟨us, h1, _⟩ := h1
  unfold Region.wanted yielded
  rw [hg]
  simp only [hd, Option.bind_some]
  rw [Array.getD_eq_getD_getElem?] at h1
  cases e : a.tmps[d]? with
  | none => rfl
  | some v => rw [e] at h1; simp at h1; subst h1; rfl

/-- The list of a region's operations from i on. -/
def Lists (ops : Array Oper) : Nat → List (Nat × Oper) → Prop
  | _, [] => True
  | i, (j, o) :: r => j = i ∧ ops[i]? = some o ∧ Lists ops (i + 1) r
theorem lists_go (ops : Array Oper) : ∀ (l : List Oper) (i : Nat), (∀ k o, l[k]? = some o → ops[i + k]? = some o) → Lists ops i ((l.zipIdx i).map fun p => (p.2, p.1))
  | [], _, _ => by simp [Lists]
  | o :: r, i, h => by
    simp only [List.zipIdx_cons, List.map_cons, Lists]
    exact ⟨trivial, h 0 o rfl, lists_go ops r (i + 1) fun k o' hk => by rw [Nat.add_assoc, Nat.add_comm 1 k]; exact h (k + 1) o' hk⟩
theorem lists_all (ops : Array Oper) : Lists ops 0 (ops.toList.zipIdx.map fun p => (p.2, p.1)) := lists_go ops _ 0 fun k o hk => by simpa using hk
theorem lists_fst (ops : Array Oper) : (ops.toList.zipIdx.map fun p => (p.2, p.1)).map Prod.fst = List.range ops.size := by
  rw [List.map_map]
  have : (Prod.fst ∘ fun (p : Oper × Nat) => (p.2, p.1)) = Prod.snd := rfl
  rw [this, List.zipIdx_map_snd, List.range_eq_range', Array.length_toList]

structure J (p : Nat → Prop) (n : Nat) (Z0 : Nat → Prop) (w0 : World) (O : Nat → Prop) (ψ0 : Nat → Value) (Z : Nat → Prop) (ψ : Nat → Value) (T : Nat → AV) (h : Hp) (a : Act) (w : World) : Prop where
  ok : Ok Z0 w0 O ψ0 Z ψ h w
  tr : TRep Z ψ h w n T a
  tm : ∀ d, Ment p (T d)
  hm : HMent p h

theorem J.imp {p q : Nat → Prop} {n : Nat} {T : Nat → AV} {a : Act} (j : J p n Z0 w0 O ψ0 Z ψ T h a w) (hpq : ∀ id, p id → q id) : J q n Z0 w0 O ψ0 Z ψ T h a w :=
  ⟨j.ok, j.tr, fun d => (j.tm d).imp hpq, fun id ty cs hb => (j.hm id ty cs hb).imp hpq⟩

/-- One operation: the machine's step keeps what holds. -/
theorem J.op (E : Env P Eqs Sg F) {rid n i : Nat} {p : Nat → Prop} {T : Nat → AV} {a : Act} {s : List (Nat × AV)} {o : Oper} (hS : makes o.op = true → ∀ id, p id → ¬ Of rid i id) (j : J p n Z0 w0 O ψ0 Z ψ T h a w) (hd : dstsOk n o = true)
    (hT : ∀ x ∈ o.op.operands, Rep Z ψ h w (ρ s x) (a.eval x)) (hTm : ∀ x ∈ o.op.operands, Ment p (ρ s x)) {hh : Heap} (hsub : ∀ id o, hh.get id = some o → h id = some o) {e : Eff} (he : opSem P Eqs Sg F (opId rid i) hh s o some = some e) (hwr : ∀ v hw, e = .wr v hw → hh.get = h)
    {p' : Nat → Prop} (hSS : ∀ k, p k → p' k) (hv : Ment p' e.v) (hh' : HMent p' (e.hp h)) {next : Act → World → Prop} {Q : Exit → Act → World → Prop}
    (hk : ∀ a' w' Z' ψ', J p' n Z0 w0 O ψ0 Z' ψ' (setT T o.dst e.v) (e.hp h) a' w' → next a' w') : o.wp P a w next Q := by
  have nof : ∀ id, p id → ¬ (makes o.op = true ∧ Of rid i id) := fun id h ⟨h1, h2⟩ => hS h1 id h h2
  refine op_wp (N := fun id => makes o.op = true ∧ Of rid i id) E j.ok.good j.ok.size hsub (id := opId rid i) (fun hm k hk => ⟨hm, of_opId hk⟩) hT (fun x hx => (hTm x hx).imp nof) (fun id ty cs hb => (j.hm id ty cs hb).imp nof) hwr he fun V w' Z' ψ' nx hr => ?_
  refine hk _ w' Z' ψ' ⟨j.ok.next (fun id h => by have := h.2; unfold Of at this; omega) nx, (j.tr.next j.ok.good nx (fun d => (j.tm d).imp nof)).put hd hr, fun d => ?_, hh'⟩
  cases hdst : o.dst with
  | none => exact (j.tm d).imp hSS
  | some d0 =>
    simp only [setT, upd]
    split
    · exact hv
    · exact (j.tm d).imp hSS
theorem J.skip {n : Nat} {p p' : Nat → Prop} {T : Nat → AV} {a : Act} {o : Oper} (j : J p n Z0 w0 O ψ0 Z ψ T h a w) (hd : dstsOk n o = true) (hSS : ∀ k, p k → p' k) :
    J p' n Z0 w0 O ψ0 Z ψ (setT T o.dst (.tup [])) h (a.put o.dst undef) w := by
  refine ⟨j.ok, j.tr.put hd undef_rep, fun d => ?_, fun id ty cs hb => (j.hm id ty cs hb).imp hSS⟩
  cases hdst : o.dst with
  | none => exact (j.tm d).imp hSS
  | some d0 =>
    simp only [setT, upd]
    split
    · simp only [Ment, MentL]
    · exact (j.tm d).imp hSS

/-! ### Ranges over maps -/
theorem frz_rep {hh : Heap} (g : Good Z ψ hh.get w B0 O) {m : Nat} {kk vk : K} {es : List (kk.T × vk.T)} (hg : hh.get m = some (.own (.map kk vk) es)) (n : Next Z ψ hh.get w B0 O N Z' ψ' h' w') (hzm : ∀ b, ob (ψ m) = some b → Z' b)
    (hold : ∀ b, b < w.heap.size → w'.heap[b]? = w.heap[b]?) {v : AV} {V : Value} (hm : Ment (fun id => ¬ N id) v) (hr : Rep Z ψ hh.get w v V) : Rep Z' ψ' h' w' (frzV m (.mp kk vk es) v) V := by
  by_cases hv : v = .osl m
  · subst hv
    simp only [frzV, if_true]
    simp only [Rep] at hr
    have hu := hr.2 (by rw [hg]; simp)
    obtain ⟨r, ents, clock, h1, h2, h3, _⟩ := g.row m (.map kk vk) es hg
    rw [h1] at hu
    subst hu
    have hlt := (Array.getElem?_eq_some_iff.1 h2).1
    simp only [Rep, RepK]
    exact ⟨some r, rfl, .inr ⟨r, ents, clock, rfl, hzm r (by rw [h1]; rfl), (hold r hlt).trans h2, h3.imp (fun _ _ h => h.mono n.zsub (fun b hb => hold b (g.zlt b hb))) (fun _ _ h => h.mono n.zsub (fun b hb => hold b (g.zlt b hb)))⟩⟩
  · have hf : frzV m (.mp kk vk es) v = v := by
      unfold frzV
      split
      · split
        · rename_i e; subst e; exact absurd rfl hv
        · rfl
      · rfl
    rw [hf]
    exact n.rep g hm hr
theorem frz_ment {p : Nat → Prop} {m : Nat} {kk vk : K} {es : List (kk.T × vk.T)} {v : AV} (hm : Ment p v) : Ment p (frzV m (.mp kk vk es) v) := by
  unfold frzV
  split
  · split
    · simp only [Ment]
    · exact hm
  · exact hm
theorem look_mapV (f : AV → AV) (hf : f .no = .no) : ∀ (l : List (Nat × AV)) (d : Nat), look (l.map fun p => (p.1, f p.2)) d = f (look l d)
  | [], _ => by simp only [List.map_nil, look]; exact hf.symm
  | (i, v) :: r, d => by
    simp only [List.map_cons, look]
    split
    · rfl
    · exact look_mapV f hf r d
theorem range_step {rid n i : Nat} {p p' : Nat → Prop} {st st' : St} {a : Act} {o : Oper} (hS : ∀ id, p id → ¬ Of rid i id) (hSS : ∀ k, p k → p' k) (hp' : p' (opId rid i)) (j : J p n Z0 w0 O ψ0 Z ψ (look st.tmps) st.heap.get a w) (hd : dstsOk n o = true) (hsp : spRange P (opId rid i) st o = some st') :
    ∃ V w' Z' ψ', (execOp a.eval o).run P w = .ok (.value V) w' ∧ J p' n Z0 w0 O ψ0 Z' ψ' (look st'.tmps) st'.heap.get (a.put o.dst V) w' := by
  unfold spRange at hsp
  split at hsp
  · rename_i t x hop
    split at hsp
    · rename_i ka va m hu hx
      split at hsp
      · rename_i kk vk es hg
        cases hsp
        have hxr : Rep Z ψ st.heap.get w (.osl m) (a.eval x) := by rw [← hx]; exact eval_rep j.tr x
        simp only [Rep] at hxr
        have hev := hxr.2 (by rw [hg]; simp)
        have g := j.ok.good
        obtain ⟨r, ents, clock, h1, h2, h3, h4, h5⟩ := g.row m (.map kk vk) es hg
        rw [h1] at hev
        have hlt := (Array.getElem?_eq_some_iff.1 h2).1
        have gd := drops_good g [.osl m]
        have hzof : ∀ b, ob (ψ m) = some b → Zof Z ψ st.heap.get [.osl m] b := fun b hb => .inr ⟨m, by simp, by rw [hg]; simp, hb⟩
        have hold : ∀ b, b < w.heap.size → (w.alloc (.mapIter (some r) clock #[] clock)).heap[b]? = w.heap[b]? := fun b hb => heap_alloc_old w _ hb
        have hN : (Of rid i) (opId rid i) := of_opId0
        have n1 := next_new (N := Of rid i) gd j.ok.size (opId rid i) hN (ok := .iter kk vk) (x := (none, es)) (v := .pointer (some ⟨w.heap.size, 0, none⟩)) (.mapIter (some r) clock #[] clock)
          ⟨w.heap.size, r, clock, #[], ents, clock, rfl, heap_alloc_new _ _, hzof r (by rw [h1]; rfl), (hold r hlt).trans h2, h4, rfl, h5, by
            rw [List.filter_eq_self.2 (fun e _ => by simp)]
            exact h3.imp (fun _ _ h => h.mono (fun b hb => .inl hb) (fun b hb => hold b (g.zlt b hb))) (fun _ _ h => h.mono (fun b hb => .inl hb) (fun b hb => hold b (g.zlt b hb))), trivial⟩ rfl
          (fun i' ty cs hb => MentL.imp (p := p) (q := fun i' => i' ≠ opId rid i) (fun id hp e => hS id hp (by rw [e]; exact hN)) (j.hm i' ty cs (drops_sub _ _ _ _ hb)))
        have n2 := n1.drop (Z := Z) (h := st.heap.get) (fun b hb => .inl hb) (fun b hb => hb.imp (fun h => h) (fun ⟨id, _, h5, h6⟩ => ⟨id, h5, h6⟩)) (drops_sub _ _)
        have hheap : (upd (drops st.heap [.osl m]).get (opId rid i) (some (Ob.own (.iter kk vk) (none, es)))) = Heap.get ((opId rid i, .own (.iter kk vk) (none, es)) :: st.heap.del m) := by
          funext k
          simp only [drops, drop1, upd, Heap.get]
          by_cases e : k = opId rid i
          · subst e; simp
          · rw [if_neg e, if_neg (fun h => e h.symm)]
        rw [hheap] at n2
        refine ⟨.pointer (some ⟨w.heap.size, 0, none⟩), w.alloc (.mapIter (some r) clock #[] clock), Zof Z ψ st.heap.get [.osl m], upd ψ (opId rid i) (.pointer (some ⟨w.heap.size, 0, none⟩)), ?_, ?_⟩
        · obtain ⟨dst, op, type, pos, after, guard⟩ := o
          simp only at hop
          subst hop
          have hrun : (Instr.range t (.map (some r))).run P w = .ok (.pointer (some ⟨w.heap.size, 0, none⟩)) (w.alloc (.mapIter (some r) clock #[] clock)) := by
            simp only [Instr.range, Sem.run_bind, run_underlying hu, Result.andThen_ok, run_getObj_any h2 (by simp), Sem.run_pure]; rfl
          simp [execOp, hev, hrun]
        · have hment : ∀ d, Ment (fun id => ¬ Of rid i id) (look st.tmps d) := fun d => (j.tm d).imp hS
          refine ⟨by rw [put_heap]; exact j.ok.next (fun id h => by unfold Of at h; omega) n2, ?_, fun d => ?_, fun k ty cs hb => ?_⟩
          · rw [look_put, put_heap]
            refine TRep.put ⟨fun d => ?_, j.tr.size, j.tr.defers⟩ hd ?_
            · rw [look_mapV _ rfl]
              exact frz_rep g hg n2 (fun b hb => hzof b hb) hold (hment d) (j.tr.rep d)
            · simp only [Rep]
              exact ⟨⟨rfl, rfl⟩, fun _ => (upd_self _ _ _).symm⟩
          · rw [look_put]
            have hb : Ment p' (look (st.tmps.map fun q => (q.1, frzV m (.mp kk vk es) q.2)) d) := by rw [look_mapV _ rfl]; exact frz_ment ((j.tm d).imp hSS)
            cases hdst : o.dst with
            | none => exact hb
            | some d0 =>
              simp only [setT, upd]
              split
              · simp only [Ment]; exact hp'
              · exact hb
          · rw [put_heap] at hb
            simp only [Heap.get] at hb
            split at hb
            · cases hb
            · exact (j.hm k ty cs (Heap.get_del_some hb).1).imp hSS
      · cases hsp
    · cases hsp
  · cases hsp

theorem anyN_spec {R : Type} {n : Nat} {f : Nat → Option R} {r : R} (h : anyN n f = some r) : ∀ j, j < n → f j = some r := by
  unfold anyN at h
  split at h
  · rename_i hx; cases h; exact Classical.choose_spec hx
  · cases h
theorem anyN_of {R : Type} {n : Nat} {f : Nat → Option R} {r : R} (hn : 0 < n) (h : ∀ j, j < n → f j = some r) : anyN n f = some r := by
  unfold anyN
  have hx : ∃ r, ∀ j, j < n → f j = some r := ⟨r, h⟩
  rw [dif_pos hx]
  have := Classical.choose_spec hx 0 hn
  rw [h 0 hn] at this
  exact this.symm
theorem Next.drawn {d : Nat} (n : Next Z ψ h { w with drawn := d } B0 O N Z' ψ' h' w') : Next Z ψ h w B0 O N Z' ψ' h' w' :=
  ⟨n.zsub, n.zfrom, ⟨n.keep.os, n.keep.tape, n.keep.output, n.keep.size, n.keep.block⟩, n.ids, n.good⟩
theorem Good.drawn {d : Nat} (g : Good Z ψ h w B0 O) : Good Z ψ h { w with drawn := d } B0 O := by
  have sm : Same Z w ({ w with drawn := d } : World) := fun _ _ => rfl
  refine ⟨fun id ty cs hb => ?_, fun id ok xs hb => ?_, g.live, g.apart, g.zlt⟩
  · obtain ⟨gg, vs, h1, h2, h3, h4⟩ := g.box id ty cs hb
    exact ⟨gg, vs, h1, h2, h3.less (fun _ h => h) sm (fun i hi => ⟨hi, rfl⟩), h4⟩
  · exact (g.row id ok xs hb).kept (fun _ h => h) sm (fun gg _ => rfl)
theorem filter_push {l : List MapEntry} (h : l.Pairwise (fun a b => a.born ≠ b.born)) {seen : Array Nat} {j : Nat} {e : MapEntry} (he : (l.filter fun e => !seen.contains e.born)[j]? = some e) :
    l.filter (fun x => !(seen.push e.born).contains x.born) = (l.filter fun e => !seen.contains e.born).eraseIdx j := by
  have h2 : (l.filter fun e => !seen.contains e.born).Pairwise (fun a b => a.born ≠ b.born) := h.sublist List.filter_sublist
  rw [← ChangeMaps.filter_eq_eraseIdx (fun x => x.born == e.born) _ j e he (by simp) (h2.imp fun {a b} hne hc => hne (by
    simp only [beq_iff_eq] at hc; omega))]
  rw [List.filter_filter]
  congr 1
  funext x
  simp only [Array.contains_push]
  cases seen.contains x.born <;> cases x.born == e.born <;> rfl
theorem nextM_step {R : Type} {hh : Heap} (g : Good Z ψ hh.get w B0 O) {x : AV} {u : Value} {ty : TypeId} (hx : Rep Z ψ hh.get w x u) {kk : AV → Heap → Option R} {r : R} (he : opNextM hh x kk = some r) :
    ∃ v h' V w', (Instr.next u false ty).run P w = .ok V w' ∧ Next Z ψ hh.get w B0 O N Z ψ h'.get w' ∧ Rep Z ψ h'.get w' v V ∧ kk v h' = some r ∧ (∀ p, Ment p v) ∧ ∀ i ty cs, h'.get i = some (.box ty cs) → hh.get i = some (.box ty cs) := by
  unfold opNextM at he
  split at he
  · rename_i id
    split at he
    · rename_i kk1 vk pp hg
      simp only [Rep] at hx
      have hu := hx.2 (by rw [hg]; simp)
      obtain ⟨b, m, since, seen, ents, clock, h1, h2, h3, h4, h5, h6, h7, h8, h9⟩ := g.row id (.iter kk1 vk) pp hg
      rw [h1] at hu
      subst hu
      subst h6
      have hlt := (Array.getElem?_eq_some_iff.1 h2).1
      have hleft : (leftOf ents seen).toList = ents.toList.filter fun e => !seen.contains e.born := by unfold leftOf; simp
      have hlen : pp.2.length = (leftOf ents seen).size := by rw [h8.1, ← hleft, Array.length_toList]
      rcases run_next_at (P := P) w ty b m since since seen ents since h2 h4 h7 (Nat.le_refl _) with ⟨h10, hrun⟩ | ⟨e, hmem, w1, hw1, hrun⟩
      · have hemp : pp.2.isEmpty = true := by rw [List.isEmpty_iff]; exact List.eq_nil_of_length_eq_zero (by rw [hlen, h10])
        rw [hemp] at he
        simp only [cond_true] at he
        exact ⟨_, hh, _, w, hrun, Next.refl g, by simp only [Rep, RepL]; exact ⟨_, rfl, _, _, rfl, rfl, rfl⟩, he, fun p => by simp only [Ment, MentL]; exact ⟨trivial, trivial⟩, fun _ _ _ h => h⟩
      · obtain ⟨k, hk, hke⟩ := List.mem_iff_getElem.1 hmem
        have hk2 : k < pp.2.length := by rw [hlen, ← Array.length_toList]; exact hk
        have hemp : pp.2.isEmpty = false := by
          cases hl : pp.2 with
          | nil => rw [hl] at hk2; simp at hk2
          | cons _ _ => rfl
        rw [hemp] at he
        simp only [cond_false] at he
        have hj := anyN_spec he k hk2
        rw [List.getElem?_eq_getElem hk2, Option.bind_some] at hj
        have hke' : (ents.toList.filter fun e => !seen.contains e.born)[k]? = some e := by rw [← hleft, List.getElem?_eq_getElem hk, hke]
        have hone := h8.2 k _ e (List.getElem?_eq_getElem hk2) hke'
        obtain ⟨⟨k1, k2, k3⟩, v1, v2, v3⟩ := hone
        have hein : e ∈ ents.toList := (List.mem_filter.1 (List.mem_of_getElem? hke')).1
        have gd1 : Good Z ψ hh.get w1 B0 O := by rcases hw1 with rfl | rfl; exact g; exact g.drawn
        have hheap1 : w1.heap = w.heap := by rcases hw1 with rfl | rfl <;> rfl
        have hmb : m ≠ b := fun hmb => by
          subst hmb
          exact (g.live id m (by rw [hg]; simp) (by rw [h1]; rfl)).1 h3
        have n1 := write_own (N := N) gd1 (id := id) (by rw [hg]; simp) (r := b) (by rw [h1]; rfl) (by rw [hheap1]; exact hlt) (.mapIter (some m) since (seen.push e.born) since) (ok := .iter kk1 vk) (x := (some pp.2[k], pp.2.eraseIdx k)) (fun w' hw' sm => by
          have sm' : Same Z w w' := fun c hc => (sm c hc).trans (by rw [hheap1])
          refine ⟨b, m, since, seen.push e.born, ents, since, h1, by rw [hw', hheap1]; simp [hlt], h3, ?_, h5, rfl, h7, ?_, ?_⟩
          · rw [hw', hheap1, set_other _ (fun e => hmb e.symm)]; exact h4
          · rw [filter_push h5 hke']
            exact (Ents.erase h8 k).mono (fun _ h => h) sm'
          · refine ⟨e, hein, by simp, ⟨rfl, fun q y e' h10 h11 => ?_⟩⟩
            cases q with
            | zero => cases h10; cases h11; exact ⟨⟨k1.mono (fun _ h => h) sm', k2, k3⟩, v1.mono (fun _ h => h) sm', v2, v3⟩
            | succ q => simp at h10)
        have n2 : Next Z ψ hh.get w B0 O N Z ψ (upd hh.get id (some (.own (.iter kk1 vk) (some pp.2[k], pp.2.eraseIdx k)))) { w1 with heap := w1.heap.setIfInBounds b (.mapIter (some m) since (seen.push e.born) since) } := by
          rcases hw1 with rfl | rfl
          · exact n1
          · exact n1.drawn
        refine ⟨_, hh.set id (.own (.iter kk1 vk) (some pp.2[k], pp.2.eraseIdx k)), _, _, hrun, by rw [get_set]; exact n2, ?_, hj, fun p => ?_, fun i ty cs hb => ?_⟩
        · have sm' : Same Z w ({ w1 with heap := w1.heap.setIfInBounds b (.mapIter (some m) since (seen.push e.born) since) } : World) := n2.same g
          simp only [Rep, RepL]
          exact ⟨_, rfl, _, _, rfl, rfl, _, _, rfl, encV_rep (k1.mono (fun _ h => h) sm') k2 k3, _, _, rfl, encV_rep (v1.mono (fun _ h => h) sm') v2 v3, rfl⟩
        · simp only [Ment, MentL]
          exact ⟨trivial, encV_ment _ _ _, encV_ment _ _ _, trivial⟩
        · rw [get_set] at hb
          unfold upd at hb
          split at hb
          · cases hb
          · exact hb
    · cases he
  · cases he

theorem guard_slice (op : BinOp) (t : TypeId) (a b : Operand) (x y : Option Addr) (n m c d : Nat) : (eqGuard op t a b (.slice x n c) (.slice y m d)).run P w = .ok () w := by cases op <;> simp [eqGuard]
theorem run_equal_nil {t e : TypeId} (ht : P.underlying t = some (.slice e)) (a : Option Addr) (n c : Nat) : (Op.equal t (.slice a n c) (.slice none 0 0)).run P w = .ok a.isNone w := by
  have key : ∀ d, (Op.equalIn (d + 1) t (.slice a n c) (.slice none 0 0)).run P w = .ok a.isNone w := fun d => by
    cases a <;> simp [Op.equalIn, run_underlying ht]
  exact key 9999
theorem isNil_spec {o : Oper} {x : Operand} {want : Bool} (h : isNil P o = some (x, want)) : ∃ op t v t' e, o.op = .binOp op t x (.const v) t' ∧ P.underlying t = some (.slice e) ∧ v = .slice none 0 0 ∧ ((op = .eql ∧ want = true) ∨ (op = .neq ∧ want = false)) := by
  unfold isNil at h
  split at h
  · rename_i op t x' v t' hop
    have hv : ∀ v : Value, ofV v = .nils → v = .slice none 0 0 := fun v hv => by
      unfold ofV at hv
      split at hv <;> try (first | cases hv | (split at hv <;> cases hv); done)
      all_goals (split at hv <;> first | cases hv | skip)
      · rename_i hc; obtain ⟨rfl, rfl, rfl⟩ := hc; rfl
      all_goals (split at hv <;> cases hv)
    split at h
    · rename_i e h1 h2 h3; cases h; exact ⟨_, _, _, _, _, hop, h2, hv _ h3, .inl ⟨rfl, rfl⟩⟩
    · rename_i e h1 h2 h3; cases h; exact ⟨_, _, _, _, _, hop, h2, hv _ h3, .inr ⟨rfl, rfl⟩⟩
    · cases h
  · cases h
theorem nil_step {R : Type} {hh : Heap} (g : Good Z ψ hh.get w B0 O) {x : AV} {u : Value} {op : BinOp} {t e : TypeId} (xo yo : Operand) (hx : Rep Z ψ hh.get w x u) (ht : P.underlying t = some (.slice e)) {want : Bool} (ho : (op = .eql ∧ want = true) ∨ (op = .neq ∧ want = false)) {kk : AV → Option R} {r : R} (he : opNil hh x want kk = some r) :
    ∃ c : Bool, ((eqGuard op t xo yo u (.slice none 0 0)).run P w = .ok () w ∧ (binOp op t u (.slice none 0 0)).run P w = .ok (.bool c) w) ∧ kk (.bool c) = some r := by
  have run : ∀ (a : Option Addr) (n c : Nat), (eqGuard op t xo yo (.slice a n c) (.slice none 0 0)).run P w = .ok () w ∧ (binOp op t (.slice a n c) (.slice none 0 0)).run P w = .ok (.bool (a.isNone == want)) w := fun a n c => by
    refine ⟨guard_slice _ _ _ _ _ _ _ _ _ _, ?_⟩
    rcases ho with ⟨rfl, rfl⟩ | ⟨rfl, rfl⟩ <;> simp only [Sem.run_bind, Result.andThen_ok, binOp, run_equal_nil ht, Sem.run_pure] <;> cases a.isNone <;> rfl
  have fin : ∀ (n : Nat) (a : Option Addr) (c : Nat) (xs : Bool), (a = none → xs = true) → cond xs (anyN 2 fun j => kk (.bool ((j == 0) == want))) (kk (.bool (!want))) = some r →
      ∃ c' : Bool, ((eqGuard op t xo yo (.slice a n c) (.slice none 0 0)).run P w = .ok () w ∧ (binOp op t (.slice a n c) (.slice none 0 0)).run P w = .ok (.bool c') w) ∧ kk (.bool c') = some r := fun n a c xs hxs h => by
    refine ⟨_, run a n c, ?_⟩
    cases xs with
    | true =>
      simp only [cond_true] at h
      cases a with
      | none => exact anyN_spec h 0 (by decide)
      | some a => exact anyN_spec h 1 (by decide)
    | false =>
      simp only [cond_false] at h
      cases a with
      | none => cases hxs rfl
      | some a => cases want <;> exact h
  unfold opNil at he
  split at he
  · rename_i hv
    have hxn : x = .nils := by
      cases x <;> simp only [view1] at hv <;> try cases hv
      · rfl
      · split at hv <;> cases hv
    subst hxn
    simp only [Rep] at hx
    subst hx
    exact ⟨_, run none 0 0, by cases want <;> exact he⟩
  · rename_i ex k xs hv
    cases x with
    | sl ex' k' xs' =>
      simp only [view1] at hv
      cases hv
      simp only [Rep, RepK] at hx
      obtain ⟨⟨v, hv, A, c, rfl, h1, h2, _⟩, _⟩ := hx
      cases hv
      refine fin _ A c _ (fun hA => ?_) he
      have := h2 hA
      rw [List.isEmpty_iff]
      exact List.eq_nil_of_length_eq_zero (by omega)
    | osl id =>
      simp only [view1] at hv
      simp only [Rep] at hx
      split at hv
      · rename_i hg
        cases hv
        have hu := hx.2 (by rw [hg]; simp)
        obtain ⟨vs, ⟨_, h1⟩, _⟩ := g.row id _ _ hg
        rw [← hu] at h1
        rcases h1 with ⟨h1, A, rfl⟩ | ⟨gg, cap, cur, rfl, _⟩
        · exact fin _ A 0 _ (fun _ => List.isEmpty_iff.2 (List.eq_nil_of_length_eq_zero h1)) he
        · exact fin _ _ _ _ (fun h => by cases h) he
      · cases hv
      · cases hv
    | _ => simp only [view1] at hv <;> cases hv
  · cases he

/-- What 'effOk' says of an operation's value and heap. -/
theorem effOk_spec {draw : Bool} {rid : Nat} {ops : Array Oper} {b : Array Nat} {i anc : Nat} {e : Eff} {S : Nat → Prop} {hh : Heap} (hm : HMent (InS rid S) h) (ha : ∀ j, anc.testBit j = true → S j) (he : effOk draw rid ops b i anc e = true) :
    Ment (InS rid fun k => S k ∨ k = i) e.v ∧ HMent (InS rid fun k => S k ∨ k = i) (e.hp h) := by
  have ha' : ∀ j, (anc ||| 2 ^ i).testBit j = true → S j ∨ j = i := fun j hj => by
    rw [Nat.testBit_or, Bool.or_eq_true] at hj
    rcases hj with hj | hj
    · exact .inl (ha j hj)
    · rw [Nat.testBit_two_pow] at hj; exact .inr (by simpa using hj : i = j).symm
  have up : HMent (InS rid fun k => S k ∨ k = i) h := fun id ty cs hb => (hm id ty cs hb).imp (fun id h1 h2 => .inl (h1 h2))
  cases e with
  | val v => exact ⟨mentV_spec (fun j hj => .inl (ha j hj)) he, up⟩
  | new v os =>
    simp only [effOk, Bool.and_eq_true] at he
    refine ⟨mentV_spec ha' he.1.1, fun id ty cs hb => ?_⟩
    simp only [Eff.hp] at hb
    split at hb
    · rename_i o ho
      cases hb
      exact (mentH_spec ha' he.2 _ _ ho).2 _ _ rfl
    · exact up id ty cs hb
  | wr v h' =>
    simp only [effOk, Bool.and_eq_true] at he
    exact ⟨mentV_spec ha' he.1.2, fun id ty cs hb => (mentH_spec ha' he.2 _ _ hb).2 _ _ rfl⟩

theorem testBit_below {i j : Nat} (h : (2 ^ i - 1).testBit j = true) : j < i := by
  rw [Nat.testBit_two_pow_sub_one] at h; simpa using h

/-- Names that may be spoken of ahead of operation i: of a region that makes something, those of the operations ahead. -/
def Upto (mk : Bool) (rid i id : Nat) : Prop := mk = true → InS rid (fun k => k < i) id

theorem seq_sound (E : Env P Eqs Sg F) {rid n : Nat} {ops : Array Oper} {b : Array Nat} (mk : Bool) (hmk : mk = false → ∀ (i : Nat) (o : Oper), ops[i]? = some o → makes o.op = false) (hn : ops.size ≤ 128) (hdst : ∀ (i : Nat) (o : Oper), ops[i]? = some o → dstsOk n o = true) {kk : St → Option R} {r : R} {Q : Exit → Act → World → Prop}
    (hQ : ∀ st' Z ψ a w, kk st' = some r → Ok Z0 w0 O ψ0 Z ψ st'.heap.get w → TRep Z ψ st'.heap.get w n (look st'.tmps) a → Q .normal a w) :
    ∀ (l : List (Nat × Oper)) (i : Nat) (st : St) (Z : Nat → Prop) (ψ : Nat → Value) (a : Act) (w : World), Lists ops i l → execOps P Eqs Sg F rid false ops b l st kk = some r →
      J (Upto mk rid i) n Z0 w0 O ψ0 Z ψ (look st.tmps) st.heap.get a w → wpOps P ops Q (l.map Prod.fst) a w
  | [], i, st, Z, ψ, a, w, _, hx, j => hQ st Z ψ a w hx j.ok j.tr
  | (i', o) :: l, i, st, Z, ψ, a, w, hl, hx, j => by
    obtain ⟨rfl, ho, hl⟩ := hl
    have hi : i' < 128 := Nat.lt_of_lt_of_le (Array.getElem?_eq_some_iff.1 ho).1 hn
    have hdo := hdst i' o ho
    have ih := seq_sound E (rid := rid) (b := b) mk hmk hn hdst hQ l (i' + 1)
    have up : ∀ id, Upto mk rid i' id → Upto mk rid (i' + 1) id := fun id h hm hr => Nat.lt_succ_of_lt (h hm hr)
    have runs : ∀ st1 : St, look st1.tmps = look st.tmps → st1.heap = st.heap → Region.wanted o (yielded ops a.tmps) = true →
        (match spRange P (opId rid i') st1 o with
        | some st' => execOps P Eqs Sg F rid false ops b l st' kk
        | none => match isNextM o with
        | some x => opNextM st1.heap (ρ st1.tmps x) fun v h => execOps P Eqs Sg F rid false ops b l (({ st1 with heap := h } : St).put o.dst v) kk
        | none => match isNil P o with
        | some (x, want) => opNil st1.heap (ρ st1.tmps x) want fun v => execOps P Eqs Sg F rid false ops b l (st1.put o.dst v) kk
        | none => opSem P Eqs Sg F (opId rid i') st1.heap st1.tmps o fun e => if effOk false rid ops b i' (2 ^ i' - 1) e then execOps P Eqs Sg F rid false ops b l ({ st1 with heap := match e with | .wr _ h => h | e => e.h st1.heap }.put o.dst e.v) kk else none) = some r →
        wpOps P ops Q (((i', o) :: l).map Prod.fst) a w := by
      intro st1 h1 h2 hw hx
      split at hx
      · rename_i st' hsp
        simp only [List.map_cons, wpOps, ho, hw, if_true]
        refine .inl ?_
        have hmk1 : makes o.op = true := by
          unfold spRange at hsp
          split at hsp
          · rename_i hop; rw [hop]; rfl
          · cases hsp
        have hmkt : mk = true := by
          cases hmkb : mk with
          | true => rfl
          | false => rw [hmk hmkb i' o ho] at hmk1; cases hmk1
        have j1 : J (Upto mk rid i') n Z0 w0 O ψ0 Z ψ (look st1.tmps) st1.heap.get a w := by rw [h1, h2]; exact j
        obtain ⟨V, w', Z', ψ', hrun, j'⟩ := range_step (P := P) (p' := Upto mk rid (i' + 1)) (fun id hp ho' => by
          obtain ⟨h3, h4⟩ := ho'.parts hi
          have := hp hmkt h3
          rw [h4] at this
          exact Nat.lt_irrefl _ this) up (fun _ h3 => by
            have := ((of_opId0 (rid := rid) (i := i')).parts hi).2
            rw [this]; exact Nat.lt_succ_self _) j1 hdo hsp
        unfold Oper.wp
        rw [hrun]
        exact ih st' Z' ψ' _ w' hl hx j'
      split at hx
      · rename_i x hnx
        simp only [List.map_cons, wpOps, ho, hw, if_true]
        refine .inl ?_
        have hop : o.op = .next x false := by
          unfold isNextM at hnx
          split at hnx
          · rename_i hop; cases hnx; exact hop
          · cases hnx
        have hxr : Rep Z ψ st1.heap.get w (ρ st1.tmps x) (a.eval x) := eval_rep (by rw [h1, h2]; exact j.tr) x
        have g1 : Good Z ψ st1.heap.get w w0.heap.size O := by rw [h2]; exact j.ok.good
        obtain ⟨v, h', V, w', hrun, nx, hr, hkk, hmv, hbx⟩ := nextM_step (P := P) (N := fun _ => False) (ty := o.type) g1 hxr hx
        have hrun' : (execOp a.eval o).run P w = .ok (.value V) w' := by
          obtain ⟨dst, op, type, pos, after, guard⟩ := o
          simp only at hop
          subst hop
          simp only at hrun
          simp [execOp, hrun]
        unfold Oper.wp
        rw [hrun']
        refine ih _ Z ψ _ w' hl hkk ?_
        rw [look_put, put_heap]
        have j1 : J (Upto mk rid i') n Z0 w0 O ψ0 Z ψ (look st1.tmps) st1.heap.get a w := by rw [h1, h2]; exact j
        refine ⟨j1.ok.next (fun id h => h.elim) nx, (j1.tr.next g1 nx (fun d => (j1.tm d).imp fun _ _ h => h)).put hdo hr, fun d => ?_, fun k ty cs hb => (j1.hm k ty cs (hbx k ty cs hb)).imp up⟩
        cases hdst : o.dst with
        | none => exact (j1.tm d).imp up
        | some d0 =>
          simp only [setT, upd]
          split
          · exact hmv _
          · exact (j1.tm d).imp up
      split at hx
      · rename_i x want hnl
        obtain ⟨op, t, v, t', et, hop, ht, rfl, hwant⟩ := isNil_spec hnl
        simp only [List.map_cons, wpOps, ho, hw, if_true]
        refine .inl ?_
        have hxr : Rep Z ψ st1.heap.get w (ρ st1.tmps x) (a.eval x) := eval_rep (by rw [h1, h2]; exact j.tr) x
        have g1 : Good Z ψ st1.heap.get w w0.heap.size O := by rw [h2]; exact j.ok.good
        obtain ⟨c, hrun, hkk⟩ := nil_step (P := P) g1 x (.const (.slice none 0 0)) hxr ht hwant hx
        have hrun' : (execOp a.eval o).run P w = .ok (.value (.bool c)) w := by
          obtain ⟨dst, op', type, pos, after, guard⟩ := o
          simp only at hop
          subst hop
          have e1 : a.eval (.const (.slice none 0 0)) = .slice none 0 0 := rfl
          simp [execOp, e1, hrun.1, hrun.2]
        unfold Oper.wp
        rw [hrun']
        refine ih _ Z ψ _ w hl hkk ?_
        rw [look_put, put_heap]
        have j1 : J (Upto mk rid i') n Z0 w0 O ψ0 Z ψ (look st1.tmps) st1.heap.get a w := by rw [h1, h2]; exact j
        refine ⟨j1.ok, j1.tr.put hdo (by simp only [Rep]), fun d => ?_, fun k ty cs hb => (j1.hm k ty cs hb).imp up⟩
        cases hdst : o.dst with
        | none => exact (j1.tm d).imp up
        | some d0 =>
          simp only [setT, upd]
          split
          · simp only [Ment]
          · exact (j1.tm d).imp up
      rw [opSem_cps] at hx
      obtain ⟨e, he, hx⟩ := Option.bind_eq_some_iff.1 hx
      split at hx
      · rename_i hok
        simp only [List.map_cons, wpOps, ho, hw, if_true]
        refine .inl ?_
        have hh : st1.heap.get = st.heap.get := by rw [h2]
        have hsp : Ment (Upto mk rid (i' + 1)) e.v ∧ HMent (Upto mk rid (i' + 1)) (e.hp st.heap.get) := by
          cases hmkb : mk with
          | false =>
            have ht : Upto false rid (i' + 1) = fun _ => True := funext fun id => propext ⟨fun _ => trivial, fun _ h => by cases h⟩
            rw [ht]; exact ⟨Ment.top _, fun _ _ cs _ => MentL.top cs⟩
          | true =>
            have hm' : HMent (InS rid fun k => k < i') st.heap.get := fun id ty cs hb => (j.hm id ty cs hb).imp fun id h1 => h1 hmkb
            have h3 := effOk_spec (hh := st1.heap) hm' (fun k hk => testBit_below hk) hok
            have hS : ∀ k, (k < i' ∨ k = i') → k < i' + 1 := fun k hk => by omega
            exact ⟨h3.1.imp fun id h1 _ h2 => hS _ (h1 h2), fun id ty cs hb => (h3.2 id ty cs hb).imp fun id h1 _ h2 => hS _ (h1 h2)⟩
        refine J.op E (p := Upto mk rid i') (p' := Upto mk rid (i' + 1)) (rid := rid) (i := i') (s := st1.tmps) (fun hm id hp ho' => ?_) j hdo (fun x _ => eval_rep (by rw [h1]; exact j.tr) x) (fun x _ => eval_ment (by rw [h1]; exact j.tm) x) (fun id o hg => by rw [hh] at hg; exact hg) he (fun _ _ _ => hh) up hsp.1 hsp.2 fun a' w' Z' ψ' j' => ?_
        · cases hmkb : mk with
          | false => rw [hmk hmkb i' o ho] at hm; cases hm
          | true =>
            obtain ⟨h3, h4⟩ := ho'.parts hi
            have := hp hmkb h3
            rw [h4] at this
            exact Nat.lt_irrefl _ this
        refine ih _ Z' ψ' a' w' hl hx ?_
        rw [look_put, put_heap]
        have j2 : J (Upto mk rid (i' + 1)) n Z0 w0 O ψ0 Z' ψ' (setT (look st1.tmps) o.dst e.v) (Eff.heap e st1.heap).get a' w' := by rw [Eff.heap_get, h1, h2]; exact j'
        exact j2
      · cases hx
    have skips : ∀ st1 : St, look st1.tmps = look st.tmps → st1.heap = st.heap → Region.wanted o (yielded ops a.tmps) = false →
        execOps P Eqs Sg F rid false ops b l (st1.put o.dst (.tup [])) kk = some r → wpOps P ops Q (((i', o) :: l).map Prod.fst) a w := by
      intro st1 h1 h2 hw hx
      simp only [List.map_cons, wpOps, ho, hw, Bool.false_eq_true, if_false]
      refine ih _ Z ψ _ w hl hx ?_
      rw [look_put, put_heap, h1, h2]
      exact j.skip hdo up
    rw [execOps] at hx
    simp only [Bool.false_eq_true, if_false] at hx
    split at hx
    · rename_i hg
      exact runs st rfl rfl (by simp [Region.wanted, hg]) hx
    · rename_i jj want hg
      split at hx
      · cases hx
      · rename_i d hd
        split at hx
        · rename_i t ht
          have hw := wanted_rep j.tr hg hd ht
          have hp : ∀ b, t = b → look (st.put (some d) (.bool b)).tmps = look st.tmps := fun b hb => by
            subst hb; rw [look_put]; exact look_same ht
          cases t <;> simp only [cond_true, cond_false] at hx <;> split at hx <;> rename_i hwant
          · exact skips _ (hp false rfl) (put_heap _ _ _) (by rw [hw]; simp [hwant]) hx
          · exact runs _ (hp false rfl) (put_heap _ _ _) (by rw [hw]; simp [hwant]) hx
          · exact runs _ (hp true rfl) (put_heap _ _ _) (by rw [hw]; simp [hwant]) hx
          · exact skips _ (hp true rfl) (put_heap _ _ _) (by rw [hw]; simp [hwant]) hx
        · rename_i vs ht
          exact skips st rfl rfl (wanted_skip j.tr hg hd ht) hx
        · cases hx
end Go.Vs

set_option linter.unusedSimpArgs false
set_option linter.unusedVariables false
namespace Go.Vs
variable {P : Program} {Eqs : TypeId → Option K} {Sg : FuncId → Option Sig} {F : (f : FuncId) → (g : Sig) → g.A → Option g.B} {R : Type}
variable {Z Z' Z0 : Nat → Prop} {ψ ψ' ψ0 : Nat → Value} {h h' : Hp} {w w' w0 : World} {B0 : Nat} {O N : Nat → Prop}

theorem frameIn_get (hp h : Heap) (i : Nat) : ∀ (ft : List Nat), (frameIn ft hp h).get i = if i ∈ ft then (match hp.get i with | some o => some o | none => h.get i) else h.get i
  | [] => by simp [frameIn]
  | j :: r => by
    have ih := frameIn_get hp h i r
    unfold frameIn at ih ⊢
    cases hj : hp.get j with
    | none =>
      rw [List.filterMap_cons, hj]
      simp only [Option.map_none]
      rw [ih]
      by_cases e : i = j
      · subst e; simp [hj]
      · simp [e]
    | some o =>
      rw [List.filterMap_cons, hj]
      simp only [Option.map_some, List.cons_append, Heap.get]
      rw [ih]
      by_cases e : j = i
      · subst e; simp [hj]
      · have e' : ¬ i = j := fun h => e h.symm
        simp [e, e']

mutual
theorem clearV_spec {ft : List Nat} : ∀ {v : AV}, clearV ft v = true → Ment (fun i => i ∉ ft) v
  | .ref id _ _ _, h => by simp only [Ment]; simpa [clearV] using h
  | .osl id, h => by simp only [Ment]; simpa [clearV] using h
  | .fn _ cap, h => by simp only [Ment]; exact clearL_spec (by simpa only [clearV] using h)
  | .agg cs, h => by simp only [Ment]; exact clearL_spec (by simpa only [clearV] using h)
  | .tup vs, h => by simp only [Ment]; exact clearL_spec (by simpa only [clearV] using h)
  | .no, _ => by simp only [Ment]
  | .bool _, _ => by simp only [Ment]
  | .int _ _, _ => by simp only [Ment]
  | .str _, _ => by simp only [Ment]
  | .nilp, _ => by simp only [Ment]
  | .nils, _ => by simp only [Ment]
  | .fp _ _ _, _ => by simp only [Ment]
  | .sl _ _ _, _ => by simp only [Ment]
  | .mp _ _ _, _ => by simp only [Ment]
theorem clearL_spec {ft : List Nat} : ∀ {l : List AV}, clearL ft l = true → MentL (fun i => i ∉ ft) l
  | [], _ => by simp only [MentL]
  | v :: r, h => by
    simp only [clearL, Bool.and_eq_true] at h
    simp only [MentL]
    exact ⟨clearV_spec h.1, clearL_spec h.2⟩
end
theorem clearH_spec {ft : List Nat} : ∀ {hh : Heap}, clearH ft hh = true → ∀ i o, hh.get i = some o → i ∉ ft ∧ ∀ ty cs, o = .box ty cs → MentL (fun i => i ∉ ft) cs
  | [], _, i, o, h => by simp [Heap.get] at h
  | (j, .box ty cs) :: r, hc, i, o, h => by
    simp only [clearH, Bool.and_eq_true] at hc
    simp only [Heap.get] at h
    split at h
    · rename_i e; subst e; cases h
      exact ⟨by simpa using hc.1, fun ty cs e => by cases e; exact clearL_spec hc.2.1⟩
    · exact clearH_spec hc.2.2 i o h
  | (j, .own ok x) :: r, hc, i, o, h => by
    simp only [clearH, Bool.and_eq_true] at hc
    simp only [Heap.get] at h
    split at h
    · rename_i e; subst e; cases h
      exact ⟨by simpa using hc.1, fun ty cs e => by cases e⟩
    · exact clearH_spec hc.2 i o h

/-- The rest, and what was set aside. -/
theorem Next.frame {hp h1 : Heap} {ft : List Nat} (g : Good Z ψ hp.get w B0 O) (hB : B0 ≤ w.heap.size) (hment : ∀ i ty cs, hp.get i = some (.box ty cs) → MentL (fun i => ¬ N i) cs)
    (n : Next Z ψ (dels hp ft).get w w.heap.size (Own ψ (dels hp ft).get) N Z' ψ' h1.get w') (hc : clearH ft h1 = true) :
    ∃ ψ2, Next Z ψ hp.get w B0 O N Z' ψ2 (frameIn ft hp h1).get w' ∧ ∀ i, i ∉ ft → ψ2 i = ψ' i := by
  classical
  have gd : ∀ i, (dels hp ft).get i = if i ∈ ft then none else hp.get i := fun i => get_dels ft hp i
  have hsub : ∀ b, Own ψ (dels hp ft).get b → Own ψ hp.get b := fun b ⟨i, h1, h2⟩ => ⟨i, by rw [gd] at h1; split at h1; exact absurd rfl h1; exact h1, h2⟩
  have hno : ∀ i, i ∈ ft → h1.get i = none := fun i hi => by
    cases e : h1.get i with
    | none => rfl
    | some o => exact absurd hi (clearH_spec hc i o e).1
  have gf : ∀ i, (frameIn ft hp h1).get i = if i ∈ ft then hp.get i else h1.get i := fun i => by
    rw [frameIn_get]
    by_cases hi : i ∈ ft
    · rw [if_pos hi, if_pos hi, hno i hi]; cases hp.get i <;> rfl
    · rw [if_neg hi, if_neg hi]
  let ψ2 : Nat → Value := fun i => if i ∈ ft then ψ i else ψ' i
  have p1 : ∀ i, i ∈ ft → ψ2 i = ψ i := fun i hi => if_pos hi
  have p2 : ∀ i, i ∉ ft → ψ2 i = ψ' i := fun i hi => if_neg hi
  have apart : ∀ i b, i ∈ ft → hp.get i ≠ none → ob (ψ i) = some b → ¬ Own ψ (dels hp ft).get b := fun i b hi h2 h3 ⟨j, h4, h5⟩ => by
    rw [gd] at h4
    split at h4
    · exact h4 rfl
    · rename_i hj
      have := g.apart i j b h2 h4 h3 h5
      subst this; exact hj hi
  have old : ∀ i b, i ∈ ft → hp.get i ≠ none → ob (ψ i) = some b → w'.heap[b]? = w.heap[b]? := fun i b hi h2 h3 =>
    n.keep.block b (g.own_lt ⟨i, h2, h3⟩) (apart i b hi h2 h3)
  have keep : Keep ψ hp.get w w' := ⟨n.keep.os, n.keep.tape, n.keep.output, n.keep.size, fun b hb hn => n.keep.block b hb fun ho => hn (hsub b ho)⟩
  have sm : Same Z w w' := keep.same g
  have ids : ∀ i, (frameIn ft hp h1).get i ≠ none → (hp.get i ≠ none ∧ ψ2 i = ψ i) ∨ N i := fun i hi => by
    rw [gf] at hi
    by_cases hf : i ∈ ft
    · rw [if_pos hf] at hi; exact .inl ⟨hi, p1 i hf⟩
    · rw [if_neg hf] at hi
      rcases n.ids i hi with ⟨h2, h3⟩ | h2
      · rw [gd, if_neg hf] at h2
        exact .inl ⟨h2, (p2 i hf).trans h3⟩
      · exact .inr h2
  have nz : ∀ i b, i ∈ ft → hp.get i ≠ none → ob (ψ i) = some b → ¬ Z' b := fun i b hi h2 h3 hz => by
    rcases n.zfrom b hz with h4 | h4 | h4
    · exact (g.live i b h2 h3).1 h4
    · exact apart i b hi h2 h3 h4
    · have := g.own_lt ⟨i, h2, h3⟩; omega
  refine ⟨ψ2, ⟨n.zsub, fun b hb => (n.zfrom b hb).imp (fun h => h) (fun h => h.imp (hsub b) fun h => h), keep, ids, ⟨fun i ty cs hb => ?_, fun i ok x hb => ?_, fun i b h2 h3 => ?_, fun i j b h2 h3 h4 h5 => ?_, n.good.zlt⟩⟩, p2⟩
  · rw [gf] at hb
    by_cases hf : i ∈ ft
    · rw [if_pos hf] at hb
      obtain ⟨gg, vs, e1, e2, e3, e4⟩ := g.box i ty cs hb
      refine ⟨gg, vs, by rw [p1 i hf, e1], (old i gg hf (by rw [hb]; simp) (by rw [e1]; rfl)).trans e2, e3.move n.zsub sm (fun j hj hne => (ids j hne).resolve_right hj) (hment i ty cs hb), e4⟩
    · rw [if_neg hf] at hb
      obtain ⟨gg, vs, e1, e2, e3, e4⟩ := n.good.box i ty cs hb
      refine ⟨gg, vs, by rw [p2 i hf, e1], e2, e3.move (fun _ h => h) (Same.refl _ _) (fun j hj hne => ?_) ((clearH_spec hc i _ hb).2 ty cs rfl), e4⟩
      rw [gf, if_neg hj] at hne
      exact ⟨hne, p2 j hj⟩
  · rw [gf] at hb
    by_cases hf : i ∈ ft
    · rw [if_pos hf] at hb
      rw [p1 i hf]
      exact (g.row i ok x hb).kept n.zsub sm (fun b hob => old i b hf (by rw [hb]; simp) hob)
    · rw [if_neg hf] at hb
      rw [p2 i hf]
      exact n.good.row i ok x hb
  · rw [gf] at h2
    by_cases hf : i ∈ ft
    · rw [if_pos hf] at h2
      rw [p1 i hf] at h3
      exact ⟨nz i b hf h2 h3, (g.live i b h2 h3).2⟩
    · rw [if_neg hf] at h2
      rw [p2 i hf] at h3
      obtain ⟨h4, h5⟩ := n.good.live i b h2 h3
      refine ⟨h4, h5.elim (fun h => .inl (Nat.le_trans hB h)) fun h => ?_⟩
      obtain ⟨j, h6, h7⟩ := hsub b h
      exact (g.live j b h6 h7).2
  · have mixed : ∀ i j b, i ∈ ft → j ∉ ft → (frameIn ft hp h1).get i ≠ none → (frameIn ft hp h1).get j ≠ none → ob (ψ2 i) = some b → ob (ψ2 j) = some b → False := fun i j b hi hj h2 h3 h4 h5 => by
      rw [gf, if_pos hi] at h2
      rw [gf, if_neg hj] at h3
      rw [p1 i hi] at h4
      rw [p2 j hj] at h5
      rcases (n.good.live j b h3 h5).2 with h6 | h6
      · have := g.own_lt ⟨i, h2, h4⟩; omega
      · exact apart i b hi h2 h4 h6
    by_cases hi : i ∈ ft <;> by_cases hj : j ∈ ft
    · rw [gf, if_pos hi] at h2
      rw [gf, if_pos hj] at h3
      rw [p1 i hi] at h4
      rw [p1 j hj] at h5
      exact g.apart i j b h2 h3 h4 h5
    · exact (mixed i j b hi hj h2 h3 h4 h5).elim
    · exact (mixed j i b hj hi h3 h2 h5 h4).elim
    · rw [gf, if_neg hi] at h2
      rw [gf, if_neg hj] at h3
      rw [p2 i hi] at h4
      rw [p2 j hj] at h5
      exact n.good.apart i j b h2 h3 h4 h5

/-- One operation, with something set aside. -/
theorem J.opF (E : Env P Eqs Sg F) {rid n i : Nat} {p : Nat → Prop} {T : Nat → AV} {a : Act} {s : List (Nat × AV)} {o : Oper} (hS : makes o.op = true → ∀ id, p id → ¬ Of rid i id) {hp h1 : Heap} {v : AV} {ft : List Nat} (j : J p n Z0 w0 O ψ0 Z ψ T hp.get a w) (hd : dstsOk n o = true)
    (hT : ∀ x ∈ o.op.operands, Rep Z ψ hp.get w (ρ s x) (a.eval x)) (hTm : ∀ x ∈ o.op.operands, Ment p (ρ s x)) (he : opSem P Eqs Sg F (opId rid i) (dels hp ft) s o some = some (.wr v h1)) (hc : clearE ft (.wr v h1) = true)
    {p' : Nat → Prop} (hSS : ∀ k, p k → p' k) (hv : Ment p' v) (hh' : HMent p' (frameIn ft hp h1).get) {next : Act → World → Prop} {Q : Exit → Act → World → Prop}
    (hk : ∀ a' w' Z' ψ', J p' n Z0 w0 O ψ0 Z' ψ' (setT T o.dst v) (frameIn ft hp h1).get a' w' → next a' w') : o.wp P a w next Q := by
  have nof : ∀ id, p id → ¬ (makes o.op = true ∧ Of rid i id) := fun id h ⟨h1, h2⟩ => hS h1 id h h2
  simp only [clearE, Bool.and_eq_true] at hc
  have hsub : ∀ id o, (dels hp ft).get id = some o → hp.get id = some o := fun id o h => by rw [get_dels] at h; split at h; cases h; exact h
  have hne : ∀ id, (dels hp ft).get id ≠ none → hp.get id ≠ none := fun id h => by
    obtain ⟨o, ho⟩ := Option.ne_none_iff_exists'.1 h
    rw [hsub id o ho]; simp
  have hment : ∀ i' ty cs, hp.get i' = some (.box ty cs) → MentL (fun id => ¬ (makes o.op = true ∧ Of rid i id)) cs := fun id ty cs hb => (j.hm id ty cs hb).imp nof
  have gs : Good Z ψ (dels hp ft).get w w.heap.size (Own ψ (dels hp ft).get) := (j.ok.good.sub hsub).ownself _
  refine op_wp (N := fun id => makes o.op = true ∧ Of rid i id) E gs (Nat.le_refl _) (fun _ _ h => h) (id := opId rid i) (fun hm k hk => ⟨hm, of_opId hk⟩) (fun x hx => (hT x hx).subH hsub) (fun x hx => (hTm x hx).imp nof) (fun id ty cs hb => hment id ty cs (hsub _ _ hb)) (fun _ _ _ => rfl) he fun V w' Z' ψ' nx hr => ?_
  obtain ⟨ψ2, n2, h2⟩ := Next.frame j.ok.good j.ok.size hment nx hc.2
  have hr2 : Rep Z' ψ2 (frameIn ft hp h1).get w' v V := hr.move (p := fun i => i ∉ ft) (fun _ h => h) (Same.refl _ _) (fun k hk hne => by
    rw [frameIn_get, if_neg hk] at hne
    exact ⟨hne, h2 k hk⟩) (clearV_spec hc.1)
  refine hk _ w' Z' ψ2 ⟨j.ok.next (fun id h => by have := h.2; unfold Of at this; omega) n2, (j.tr.next j.ok.good n2 (fun d => (j.tm d).imp nof)).put hd hr2, fun d => ?_, hh'⟩
  cases hdst : o.dst with
  | none => exact (j.tm d).imp hSS
  | some d0 =>
    simp only [setT, upd]
    split
    · exact hv
    · exact (j.tm d).imp hSS
end Go.Vs

set_option linter.unusedSimpArgs false
set_option linter.unusedVariables false
namespace Go.Vs
variable {P : Program} {Eqs : TypeId → Option K} {Sg : FuncId → Option Sig} {F : (f : FuncId) → (g : Sig) → g.A → Option g.B} {R : Type}
variable {Z Z' Z0 : Nat → Prop} {ψ ψ' : Nat → Value} {h h' : Hp} {w w' w0 : World} {B0 : Nat} {O N : Nat → Prop}
variable {rid n : Nat} {ops : Array Oper} {b : Array Nat}

def Bit (b : Array Nat) (i j : Nat) : Prop := (b.getD i 0).testBit j = true

theorem fold_bits (b : Array Nat) (j : Nat) : ∀ (l : List Edge) (s : Nat), (l.foldl (fun s e => if Region.binds .any e then s ||| 2 ^ e.on ||| b.getD e.on 0 else s) s).testBit j = true ↔
    s.testBit j = true ∨ ∃ e ∈ l, Region.binds .any e = true ∧ (j = e.on ∨ Bit b e.on j)
  | [], s => by simp
  | e :: l, s => by
    rw [List.foldl_cons, fold_bits b j l]
    by_cases hb : Region.binds .any e = true
    · rw [if_pos hb]
      have h2 : (2 ^ e.on).testBit j = true ↔ j = e.on := by rw [Nat.testBit_two_pow]; simp [eq_comm]
      simp only [Nat.testBit_or, Bool.or_eq_true, h2, List.mem_cons, exists_eq_or_imp, hb, true_and, Bit]
      constructor
      · rintro (((h | h) | h) | h)
        · exact .inl h
        · exact .inr (.inl (.inl h))
        · exact .inr (.inl (.inr h))
        · exact .inr (.inr h)
      · rintro (h | (h | h) | h)
        · exact .inl (.inl (.inl h))
        · exact .inl (.inl (.inr h))
        · exact .inl (.inr h)
        · exact .inr h
    · rw [if_neg hb]
      simp [hb]

theorem bef_iff (hb : befOk ops b = true) {i j : Nat} {o : Oper} (ho : ops[i]? = some o) : Bit b i j ↔ ∃ e ∈ o.after.toList, Region.binds .any e = true ∧ (j = e.on ∨ Bit b e.on j) := by
  have hlt := (Array.getElem?_eq_some_iff.1 ho).1
  have h1 := List.all_eq_true.1 hb i (List.mem_range.2 hlt)
  rw [ho] at h1
  simp only [Bool.and_eq_true, beq_iff_eq] at h1
  unfold Bit
  rw [h1.2, fold_bits]
  simp [Bit]
theorem bef_on (hb : befOk ops b = true) {i : Nat} {o : Oper} (ho : ops[i]? = some o) {e : Edge} (he : e ∈ o.after.toList) (hbi : Region.binds .any e = true) : e.on < i := by
  have hlt := (Array.getElem?_eq_some_iff.1 ho).1
  have h1 := List.all_eq_true.1 hb i (List.mem_range.2 hlt)
  rw [ho] at h1
  simp only [Bool.and_eq_true] at h1
  have := List.all_eq_true.1 h1.1 e he
  simpa [hbi] using this
theorem bef_lt (hb : befOk ops b = true) : ∀ (i j : Nat), i < ops.size → Bit b i j → j < i := by
  intro i
  induction i using Nat.strongRecOn with
  | ind i ih =>
    intro j hi h
    obtain ⟨e, he, hbi, h1⟩ := (bef_iff hb (Array.getElem?_eq_getElem hi)).1 h
    have hon := bef_on hb (Array.getElem?_eq_getElem hi) he hbi
    rcases h1 with rfl | h1
    · exact hon
    · exact Nat.lt_trans (ih e.on hon j (by omega) h1) hon
theorem bef_trans (hb : befOk ops b = true) : ∀ (i j k : Nat), i < ops.size → Bit b i j → Bit b j k → Bit b i k := by
  intro i
  induction i using Nat.strongRecOn with
  | ind i ih =>
    intro j k hi h h'
    obtain ⟨e, he, hbi, h1⟩ := (bef_iff hb (Array.getElem?_eq_getElem hi)).1 h
    have hon := bef_on hb (Array.getElem?_eq_getElem hi) he hbi
    refine (bef_iff hb (Array.getElem?_eq_getElem hi)).2 ⟨e, he, hbi, ?_⟩
    rcases h1 with rfl | h1
    · exact .inr h'
    · exact .inr (ih e.on hon j k (by omega) h1 h')

theorem get_filter (f : Nat → Bool) : ∀ (hh : Heap) (i : Nat), Heap.get (hh.filter fun p => f p.1) i = if f i then hh.get i else none
  | [], i => by simp [Heap.get]
  | (j, o) :: r, i => by
    rw [List.filter_cons]
    split
    · rename_i hj
      simp only [Heap.get]
      by_cases e : j = i
      · subst e; simp only at hj; simp [hj]
      · simp only [if_neg e]; exact get_filter f r i
    · rename_i hj
      rw [get_filter f r i]
      simp only [Heap.get]
      by_cases e : j = i
      · subst e; simp only at hj; simp [hj]
      · simp only [if_neg e]

theorem ahead_get (rid anc : Nat) (hh : Heap) (id : Nat) : (ahead rid anc hh).get id = if idOk rid anc id then hh.get id else none := by
  unfold ahead
  exact get_filter (fun i => idOk rid anc i) hh id

theorem frameE_v (ft : List Nat) (hp : Heap) (e : Eff) : (frameE ft hp e).v = e.v := by cases e <;> rfl
theorem look_val {id : Nat} {hh : Heap} {s : List (Nat × AV)} {o : Oper} {x : Operand} {e : Eff} (hl : lookAt o.op = some x) (he : opSem P Eqs Sg F id hh s o some = some e) : ∃ v, e = .val v := by
  obtain ⟨dst, op, type, pos, after, guard⟩ := o
  cases op <;> simp only [lookAt] at hl <;> first | (cases hl; done) | skip
  case load t a =>
    simp only [opSem, opLoad] at he
    repeat' (first | (cases he; done) | exact ⟨_, (Option.some.inj he).symm⟩ | split at he)
    all_goals
      obtain ⟨y, _, he⟩ := Option.bind_eq_some_iff.1 he
      split at he <;> first | (cases he; done) | exact ⟨_, (Option.some.inj he).symm⟩
  case indexAddr t a i =>
    simp only [opSem, opIndexAddr] at he
    repeat' (first | (cases he; done) | exact ⟨_, (Option.some.inj he).symm⟩ | split at he)
    all_goals first
      | (obtain ⟨y, _, he⟩ := Option.bind_eq_some_iff.1 he; exact ⟨_, (Option.some.inj he).symm⟩)
      | (unfold cond at he; split at he <;> first | (cases he; done) | exact ⟨_, (Option.some.inj he).symm⟩)
theorem look_free {op : Op} {x : Operand} (hl : lookAt op = some x) : freeOp op = false ∧ framing op = false := by
  cases op <;> simp only [lookAt] at hl <;> first | (cases hl; done) | exact ⟨rfl, rfl⟩
theorem look_local {id : Nat} {hh h2 : Heap} {s : List (Nat × AV)} {o : Oper} {x : Operand} (hl : lookAt o.op = some x) (hg : ∀ i ∈ footV (ρ s x), h2.get i = hh.get i) : opSem P Eqs Sg F id h2 s o some = opSem P Eqs Sg F id hh s o some := by
  obtain ⟨dst, op, type, pos, after, guard⟩ := o
  cases op <;> simp only [lookAt] at hl <;> first | (cases hl; done) | skip
  case load t a =>
    cases hl
    simp only [opSem, opLoad]
    cases hv : ρ s x with
    | ref i s' j off => rw [hv] at hg; simp only [footV, List.mem_singleton, forall_eq] at hg; simp only [hg]
    | _ => rfl
  case indexAddr t a i =>
    cases hl
    simp only [opSem, opIndexAddr]
    cases elemT P t with
    | none => rfl
    | some e =>
      simp only []
      cases hv : ρ s x with
      | osl k =>
        rw [hv] at hg
        have hg' := hg k (by simp [footV])
        cases ρ s i <;> first | rfl | simp only [hg']
      | sl ex k xs => cases ρ s i <;> rfl
      | _ => rfl
/-- What a guard says. -/
def Wants (ops : Array Oper) (T : Nat → AV) (o : Oper) (t : Bool) : Prop :=
  match o.guard with
  | none => t = true
  | some (j, want) => ∃ d, (ops[j]?).bind (·.dst) = some d ∧ ((∃ u, T d = .bool u ∧ (u == want) = t) ∨ (∃ vs, T d = .tup vs ∧ t = false))

/-- One step of the run in the text's order. -/
def StepT (P : Program) (Eqs : TypeId → Option K) (Sg : FuncId → Option Sig) (F : (f : FuncId) → (g : Sig) → g.A → Option g.B) (rid : Nat) (ops : Array Oper) (b : Array Nat) (T : Nat → Nat → AV) (H : Nat → Hp) (E : Nat → Option Eff) (k : Nat) (o : Oper) : Prop :=
  (∃ e s hh, E k = some e ∧ look s = T k ∧ (∀ id, Heap.get hh id = if idOk rid (b.getD k 0) id then H k id else none) ∧ (∃ e0, opSem P Eqs Sg F (opId rid k) (dels hh (ftOf ops b k s o)) s o some = some e0 ∧ e = frameE (ftOf ops b k s o) hh e0 ∧ clearE (ftOf ops b k s o) e0 = true) ∧
    effOk true rid ops b k (b.getD k 0) e = true ∧ Wants ops (T k) o true ∧ T (k + 1) = setT (T k) o.dst e.v ∧ H (k + 1) = e.hp (H k)) ∨
  (E k = none ∧ Wants ops (T k) o false ∧ T (k + 1) = setT (T k) o.dst (.tup []) ∧ H (k + 1) = H k)

theorem trace {kk : St → Option R} {r : R} : ∀ (l : List (Nat × Oper)) (i : Nat) (st : St), Lists ops i l → l.length = ops.size - i → execOps P Eqs Sg F rid true ops b l st kk = some r →
    ∃ (T : Nat → Nat → AV) (H : Nat → Hp) (E : Nat → Option Eff), T i = look st.tmps ∧ H i = st.heap.get ∧ (∀ k o, i ≤ k → ops[k]? = some o → StepT P Eqs Sg F rid ops b T H E k o) ∧
      ∃ st', kk st' = some r ∧ look st'.tmps = T (max i ops.size) ∧ st'.heap.get = H (max i ops.size)
  | [], i, st, _, hlen, hx => by
    have hge : ops.size ≤ i := by simp at hlen; omega
    refine ⟨fun _ => look st.tmps, fun _ => st.heap.get, fun _ => none, rfl, rfl, fun k o hk ho => ?_, st, hx, rfl, rfl⟩
    have := (Array.getElem?_eq_some_iff.1 ho).1
    omega
  | (i', o) :: l, i, st, hl, hlen, hx => by
    obtain ⟨rfl, ho, hl⟩ := hl
    have hlt := (Array.getElem?_eq_some_iff.1 ho).1
    have ih := trace (kk := kk) (r := r) l (i' + 1)
    have hlen' : l.length = ops.size - (i' + 1) := by simp at hlen; omega
    have glue : ∀ (st' : St) (oe : Option Eff), execOps P Eqs Sg F rid true ops b l st' kk = some r →
        (∀ T H E, T i' = look st.tmps → H i' = st.heap.get → E i' = oe → T (i' + 1) = look st'.tmps → H (i' + 1) = st'.heap.get → StepT P Eqs Sg F rid ops b T H E i' o) →
        ∃ (T : Nat → Nat → AV) (H : Nat → Hp) (E : Nat → Option Eff), T i' = look st.tmps ∧ H i' = st.heap.get ∧ (∀ k o, i' ≤ k → ops[k]? = some o → StepT P Eqs Sg F rid ops b T H E k o) ∧
          ∃ st', kk st' = some r ∧ look st'.tmps = T (max i' ops.size) ∧ st'.heap.get = H (max i' ops.size) := by
      intro st' oe hx' hst
      obtain ⟨T, H, E, h1, h2, h3, st'', h4, h5, h6⟩ := ih st' hl hlen' hx'
      refine ⟨fun k => if k ≤ i' then look st.tmps else T k, fun k => if k ≤ i' then st.heap.get else H k, fun k => if k = i' then oe else E k, by simp, by simp, fun k o' hk ho' => ?_, st'', h4, ?_, ?_⟩
      · by_cases hki : k = i'
        · subst hki
          rw [ho] at ho'
          cases ho'
          exact hst _ _ _ (by simp) (by simp) (by simp) (by show (if k + 1 ≤ k then _ else _) = _; rw [if_neg (by omega)]; exact h1) (by show (if k + 1 ≤ k then _ else _) = _; rw [if_neg (by omega)]; exact h2)
        · have h7 := h3 k o' (by omega) ho'
          unfold StepT at h7 ⊢
          simp only [show ¬ k ≤ i' by omega, show ¬ k + 1 ≤ i' by omega, hki, if_false]
          exact h7
      · rw [h5]; simp only [show max (i' + 1) ops.size = ops.size by omega, show max i' ops.size = ops.size by omega, show ¬ ops.size ≤ i' by omega, if_false]
      · rw [h6]; simp only [show max (i' + 1) ops.size = ops.size by omega, show max i' ops.size = ops.size by omega, show ¬ ops.size ≤ i' by omega, if_false]
    have runs : ∀ st1 : St, look st1.tmps = look st.tmps → st1.heap = st.heap → Wants ops (look st.tmps) o true →
        (opSem P Eqs Sg F (opId rid i') (dels (ahead rid (b.getD i' 0) st1.heap) (ftOf ops b i' st1.tmps o)) st1.tmps o fun e => if (effOk true rid ops b i' (b.getD i' 0) (frameE (ftOf ops b i' st1.tmps o) (ahead rid (b.getD i' 0) st1.heap) e) && clearE (ftOf ops b i' st1.tmps o) e) = true then execOps P Eqs Sg F rid true ops b l ({ st1 with heap := match frameE (ftOf ops b i' st1.tmps o) (ahead rid (b.getD i' 0) st1.heap) e with | .wr _ h => h | e => e.h st1.heap }.put o.dst e.v) kk else none) = some r →
        ∃ (T : Nat → Nat → AV) (H : Nat → Hp) (E : Nat → Option Eff), T i' = look st.tmps ∧ H i' = st.heap.get ∧ (∀ k o, i' ≤ k → ops[k]? = some o → StepT P Eqs Sg F rid ops b T H E k o) ∧
          ∃ st', kk st' = some r ∧ look st'.tmps = T (max i' ops.size) ∧ st'.heap.get = H (max i' ops.size) := by
      intro st1 h1 h2 hw hx
      rw [opSem_cps] at hx
      obtain ⟨e, he, hx⟩ := Option.bind_eq_some_iff.1 hx
      split at hx
      · rename_i hok
        rw [Bool.and_eq_true] at hok
        generalize hfe : frameE (ftOf ops b i' st1.tmps o) (ahead rid (b.getD i' 0) st1.heap) e = e1 at hx hok
        have hv1 : e.v = e1.v := by rw [← hfe]; exact (frameE_v _ _ _).symm
        refine glue _ (some e1) hx fun T H E hT hH hE hT' hH' => ?_
        refine .inl ⟨e1, st1.tmps, _, hE, by rw [hT, h1], fun id => by rw [ahead_get, hH, h2], ⟨e, he, hfe.symm, hok.2⟩, hok.1, by rw [hT]; exact hw, ?_, ?_⟩
        · rw [hT', look_put, hT, hv1]; simp only [h1]
        · rw [hH', put_heap, hH]
          have : (Eff.heap e1 st1.heap).get = e1.hp st.heap.get := by rw [Eff.heap_get, h2]
          exact this
      · cases hx
    have skips : ∀ st1 : St, look st1.tmps = look st.tmps → st1.heap = st.heap → Wants ops (look st.tmps) o false →
        execOps P Eqs Sg F rid true ops b l (st1.put o.dst (.tup [])) kk = some r →
        ∃ (T : Nat → Nat → AV) (H : Nat → Hp) (E : Nat → Option Eff), T i' = look st.tmps ∧ H i' = st.heap.get ∧ (∀ k o, i' ≤ k → ops[k]? = some o → StepT P Eqs Sg F rid ops b T H E k o) ∧
          ∃ st', kk st' = some r ∧ look st'.tmps = T (max i' ops.size) ∧ st'.heap.get = H (max i' ops.size) := by
      intro st1 h1 h2 hw hx
      refine glue _ none hx fun T H E hT hH hE hT' hH' => .inr ⟨hE, by rw [hT]; exact hw, ?_, ?_⟩
      · rw [hT', look_put, hT, h1]
      · rw [hH', put_heap, hH, h2]
    rw [execOps] at hx
    simp only [if_true] at hx
    split at hx
    · rename_i hg
      exact runs st rfl rfl (by simp [Wants, hg]) hx
    · rename_i jj want hg
      split at hx
      · cases hx
      · rename_i d hd
        split at hx
        · rename_i t ht
          have hp : ∀ b, t = b → look (st.put (some d) (.bool b)).tmps = look st.tmps := fun b hb => by
            subst hb; rw [look_put]; exact look_same ht
          have hw : ∀ c, (t == want) = c → Wants ops (look st.tmps) o c := fun c hc => by
            unfold Wants; rw [hg]; exact ⟨d, hd, .inl ⟨t, ht, hc⟩⟩
          cases t <;> simp only [cond_true, cond_false] at hx <;> split at hx <;> rename_i hwant
          · exact skips _ (hp false rfl) (put_heap _ _ _) (hw _ (by simp [hwant])) hx
          · exact runs _ (hp false rfl) (put_heap _ _ _) (hw _ (by simp [hwant])) hx
          · exact runs _ (hp true rfl) (put_heap _ _ _) (hw _ (by simp [hwant])) hx
          · exact skips _ (hp true rfl) (put_heap _ _ _) (hw _ (by simp [hwant])) hx
        · rename_i vs ht
          exact skips st rfl rfl (by unfold Wants; rw [hg]; exact ⟨d, hd, .inr ⟨vs, ht, rfl⟩⟩) hx
        · cases hx

def Nf (ops : Array Oper) (j : Nat) : Prop := ∃ o, ops[j]? = some o ∧ freeOp o.op = false ∧ lookAt o.op = none
def IsW (E : Nat → Option Eff) (k : Nat) : Prop := ∃ v h', E k = some (.wr v h')
def IsN (E : Nat → Option Eff) (k : Nat) : Prop := ∃ v os, E k = some (.new v os)

theorem nodup_filter {α : Type} (f : α → Option Nat) : ∀ (l : List α), nodupB (l.filterMap f) = true → ∀ (i j : Nat) (x y : α) (d : Nat), l[i]? = some x → l[j]? = some y → f x = some d → f y = some d → i = j
  | [], _, i, j, x, y, d, hi, _, _, _ => by simp at hi
  | a :: r, hn, i, j, x, y, d, hi, hj, hx, hy => by
    have hmem : ∀ (k : Nat) (z : α), r[k]? = some z → f z = some d → d ∈ r.filterMap f := fun k z hk hz => List.mem_filterMap.2 ⟨z, List.mem_of_getElem? hk, hz⟩
    have hr : nodupB (r.filterMap f) = true ∧ ∀ c, f a = some c → c ∉ r.filterMap f := by
      rw [List.filterMap_cons] at hn
      split at hn
      · rename_i h0; exact ⟨hn, fun c hc => by rw [h0] at hc; cases hc⟩
      · rename_i c h0
        simp only [nodupB, Bool.and_eq_true, Bool.not_eq_true'] at hn
        refine ⟨hn.2, fun c' hc => ?_⟩
        rw [h0] at hc; cases hc
        intro hm
        rw [List.contains_iff_mem.2 hm] at hn; simp at hn
    cases i with
    | zero =>
      cases j with
      | zero => rfl
      | succ j =>
        simp only [List.getElem?_cons_zero, Option.some.injEq] at hi; subst hi
        exact absurd (hmem j y (by simpa using hj) hy) (hr.2 d hx)
    | succ i =>
      cases j with
      | zero =>
        simp only [List.getElem?_cons_zero, Option.some.injEq] at hj; subst hj
        exact absurd (hmem i x (by simpa using hi) hx) (hr.2 d hy)
      | succ j => rw [nodup_filter f r hr.1 i j x y d (by simpa using hi) (by simpa using hj) hx hy]

/-- The run in the text's order, and what was checked of the region. -/
structure Dr (P : Program) (Eqs : TypeId → Option K) (Sg : FuncId → Option Sig) (F : (f : FuncId) → (g : Sig) → g.A → Option g.B) (rid n : Nat) (ops : Array Oper) (b : Array Nat) (T : Nat → Nat → AV) (H : Nat → Hp) (E : Nat → Option Eff) : Prop where
  size : ops.size ≤ 128
  bef : befOk ops b = true
  pair : pairOk ops b = true
  dsts : ∀ (i : Nat) (o : Oper), ops[i]? = some o → dstsOk n o = true
  nodup : nodupB (ops.toList.filterMap (·.dst)) = true
  step : ∀ k o, ops[k]? = some o → StepT P Eqs Sg F rid ops b T H E k o
  dom0 : ∀ id, H 0 id ≠ none → id / 32768 ≠ rid + 1

section
variable {T : Nat → Nat → AV} {H : Nat → Hp} {E : Nat → Option Eff}

theorem Dr.dst_inj (D : Dr P Eqs Sg F rid n ops b T H E) {i j : Nat} {x y : Oper} {d : Nat} (hi : ops[i]? = some x) (hj : ops[j]? = some y) (hx : x.dst = some d) (hy : y.dst = some d) : i = j :=
  nodup_filter (·.dst) ops.toList D.nodup i j x y d (by simpa using hi) (by simpa using hj) hx hy

theorem Dr.pairs (D : Dr P Eqs Sg F rid n ops b T H E) {i j : Nat} {x y : Oper} (hi : ops[i]? = some x) (hj : ops[j]? = some y) (hij : i < j) : Bit b j i ∨ x.apart ops y = true := by
  have h1 := List.all_eq_true.1 D.pair j (List.mem_range.2 (Array.getElem?_eq_some_iff.1 hj).1)
  have h2 := List.all_eq_true.1 h1 i (List.mem_range.2 hij)
  rw [hi, hj] at h2
  simp only [Bool.or_eq_true, Bool.and_eq_true] at h2
  exact h2

theorem Dr.ran (D : Dr P Eqs Sg F rid n ops b T H E) {k : Nat} {o : Oper} (ho : ops[k]? = some o) {e : Eff} (he : E k = some e) :
    ∃ s hh, look s = T k ∧ (∀ id, Heap.get hh id = if idOk rid (b.getD k 0) id then H k id else none) ∧ (∃ e0, opSem P Eqs Sg F (opId rid k) (dels hh (ftOf ops b k s o)) s o some = some e0 ∧ e = frameE (ftOf ops b k s o) hh e0 ∧ clearE (ftOf ops b k s o) e0 = true) ∧
      effOk true rid ops b k (b.getD k 0) e = true ∧ Wants ops (T k) o true ∧ T (k + 1) = setT (T k) o.dst e.v ∧ H (k + 1) = e.hp (H k) := by
  rcases D.step k o ho with ⟨e', s, hh, h1, h2⟩ | ⟨h1, _⟩
  · rw [he] at h1; cases h1; exact ⟨s, hh, h2⟩
  · rw [he] at h1; cases h1
theorem Dr.skipped (D : Dr P Eqs Sg F rid n ops b T H E) {k : Nat} {o : Oper} (ho : ops[k]? = some o) (he : E k = none) :
    Wants ops (T k) o false ∧ T (k + 1) = setT (T k) o.dst (.tup []) ∧ H (k + 1) = H k := by
  rcases D.step k o ho with ⟨e', s, hh, h1, h2⟩ | ⟨h1, h2⟩
  · rw [he] at h1; cases h1
  · exact h2

theorem Dr.new_nf (D : Dr P Eqs Sg F rid n ops b T H E) {k : Nat} (hk : k < ops.size) (h : IsN E k) : Nf ops k := by
  obtain ⟨v, os, he⟩ := h
  obtain ⟨s, hh, _, _, ⟨e0, h3, he0, _⟩, _⟩ := D.ran (Array.getElem?_eq_getElem hk) he
  refine ⟨_, Array.getElem?_eq_getElem hk, ?_, ?_⟩
  · cases hf : freeOp (ops[k]).op with
    | false => rfl
    | true => obtain ⟨v', rfl⟩ := free_val hf h3; cases he0
  · cases hf : lookAt (ops[k]).op with
    | none => rfl
    | some x => obtain ⟨v', rfl⟩ := look_val hf h3; cases he0
theorem Dr.w_nf (D : Dr P Eqs Sg F rid n ops b T H E) {k : Nat} (hk : k < ops.size) (h : IsW E k) : Nf ops k := by
  obtain ⟨v, os, he⟩ := h
  obtain ⟨s, hh, _, _, ⟨e0, h3, he0, _⟩, _⟩ := D.ran (Array.getElem?_eq_getElem hk) he
  refine ⟨_, Array.getElem?_eq_getElem hk, ?_, ?_⟩
  · cases hf : freeOp (ops[k]).op with
    | false => rfl
    | true => obtain ⟨v', rfl⟩ := free_val hf h3; cases he0
  · cases hf : lookAt (ops[k]).op with
    | none => rfl
    | some x => obtain ⟨v', rfl⟩ := look_val hf h3; cases he0
/-- An operation that writes is ordered against all that touch memory. -/
theorem Dr.solo (D : Dr P Eqs Sg F rid n ops b T H E) {k j : Nat} (hk : k < ops.size) (h : IsW E k) (hj : Nf ops j) (hne : j ≠ k) : (j < k ∧ Bit b k j) ∨ (k < j ∧ Bit b j k) := by
  obtain ⟨v, os, he⟩ := h
  obtain ⟨s, hh, _, _, _, h4, _⟩ := D.ran (Array.getElem?_eq_getElem hk) he
  obtain ⟨o, ho, hf, hla⟩ := hj
  have hjl := (Array.getElem?_eq_some_iff.1 ho).1
  simp only [effOk, Bool.and_eq_true] at h4
  have h5 : soloOk ops b k = true := by simpa using h4.1.1
  have h6 := List.all_eq_true.1 h5 j (List.mem_range.2 hjl)
  have hlf : lookFine ops k j = false := by unfold lookFine; rw [ho]; simp only [Option.bind_some, hla]
  rw [hlf, Bool.and_false, ho] at h6
  simp only [Bool.or_eq_true, beq_iff_eq, hf, Bool.false_eq_true, or_false] at h6
  rcases h6 with (h6 | h6) | h6
  · exact absurd h6 hne
  · exact .inr ⟨bef_lt D.bef j k hjl h6, h6⟩
  · exact .inl ⟨bef_lt D.bef k j hk h6, h6⟩

/-- One thing in the heap, while nothing writes it. -/
theorem Dr.between2 (D : Dr P Eqs Sg F rid n ops b T H E) {p : Nat} : ∀ (q : Nat), p ≤ q → q ≤ ops.size → ∀ id, (∀ k, p ≤ k → k < q → IsW E k → H (k + 1) id = H k id) → (∀ k, p ≤ k → k < q → IsN E k → ¬ Of rid k id) → H q id = H p id := by
  intro q
  induction q with
  | zero => intro hpq _ id _ _; rw [Nat.le_zero.1 hpq]
  | succ q ih =>
    intro hpq hq id hw hid
    by_cases he : p = q + 1
    · rw [he]
    · have h1 := ih (by omega) (by omega) id (fun k h1 h2 => hw k h1 (by omega)) (fun k h1 h2 => hid k h1 (by omega))
      rw [← h1]
      have ho := Array.getElem?_eq_getElem (show q < ops.size by omega)
      cases hE : E q with
      | none => rw [(D.skipped ho hE).2.2]
      | some e =>
        obtain ⟨s, hh, _, _, _, h4, _, _, h7⟩ := D.ran ho hE
        cases e with
        | val v => rw [h7]; rfl
        | wr v h' => exact hw q (by omega) (by omega) ⟨v, h', hE⟩
        | new v os =>
          rw [h7]
          simp only [Eff.hp]
          cases hos : Heap.get os id with
          | none => rfl
          | some o' =>
            exfalso
            simp only [effOk, Bool.and_eq_true] at h4
            refine hid q (by omega) (by omega) ⟨v, os, hE⟩ ?_
            have : ∀ (l : Heap), (l.all fun p => p.1 / 256 == (rid + 1) * 128 + q) = true → ∀ o', l.get id = some o' → Of rid q id := by
              intro l
              induction l with
              | nil => intro _ o' h; simp [Heap.get] at h
              | cons a r ihl =>
                intro hall o' hg
                simp only [List.all_cons, Bool.and_eq_true, beq_iff_eq] at hall
                simp only [Heap.get] at hg
                split at hg
                · rename_i e; rw [← e]; exact hall.1
                · exact ihl hall.2 o' hg
            exact this os h4.1.2 o' hos

/-- The heap between two writes: but for what is new. -/
theorem Dr.between (D : Dr P Eqs Sg F rid n ops b T H E) {p : Nat} (q : Nat) (hpq : p ≤ q) (hq : q ≤ ops.size) (hw : ∀ k, p ≤ k → k < q → ¬ IsW E k) (id : Nat) (hn : ∀ k, p ≤ k → k < q → IsN E k → ¬ Of rid k id) : H q id = H p id :=
  D.between2 q hpq hq id (fun k h1 h2 h3 => absurd h3 (hw k h1 h2)) hn

/-- Whose the names are. -/
theorem Dr.names (D : Dr P Eqs Sg F rid n ops b T H E) : ∀ (k : Nat), k ≤ ops.size → ∀ id, H k id ≠ none → id / 32768 = rid + 1 → ∃ j, Of rid j id ∧ j < k ∧ j < 128 ∧ (IsN E j ∨ ∃ w, w < k ∧ IsW E w ∧ (j = w ∨ Bit b w j)) := by
  intro k
  induction k with
  | zero => intro _ id h1 h2; exact absurd h2 (D.dom0 id h1)
  | succ k ih =>
    intro hk id h1 h2
    have hlt : k < ops.size := by omega
    have up : H k id ≠ none → ∃ j, Of rid j id ∧ j < k + 1 ∧ j < 128 ∧ (IsN E j ∨ ∃ w, w < k + 1 ∧ IsW E w ∧ (j = w ∨ Bit b w j)) := fun h => by
      obtain ⟨j, h3, h4, h4', h5⟩ := ih (by omega) id h h2
      exact ⟨j, h3, by omega, h4', h5.imp (fun h => h) fun ⟨w, h6, h7⟩ => ⟨w, by omega, h7⟩⟩
    have ho := Array.getElem?_eq_getElem hlt
    have h128 := D.size
    cases hE : E k with
    | none => rw [(D.skipped ho hE).2.2] at h1; exact up h1
    | some e =>
      obtain ⟨s, hh, _, _, _, h4, _, _, h7⟩ := D.ran ho hE
      rw [h7] at h1
      cases e with
      | val v => exact up h1
      | wr v h' =>
        obtain ⟨o', ho'⟩ := Option.ne_none_iff_exists'.1 h1
        simp only [effOk, Bool.and_eq_true] at h4
        have h5 : (b.getD k 0 ||| 2 ^ k).testBit (id / 256 % 128) = true := (mentH_spec (S := fun j => (b.getD k 0 ||| 2 ^ k).testBit j = true) (fun j hj => hj) h4.2 id o' ho').1 h2
        rw [Nat.testBit_or, Bool.or_eq_true, Nat.testBit_two_pow] at h5
        refine ⟨id / 256 % 128, Of.of h2 rfl, ?_, by omega, .inr ⟨k, by omega, ⟨v, h', hE⟩, ?_⟩⟩
        · rcases h5 with h5 | h5
          · have := bef_lt D.bef k _ hlt h5; omega
          · have := of_decide_eq_true h5; omega
        · rcases h5 with h5 | h5
          · exact .inr h5
          · exact .inl (of_decide_eq_true h5).symm
      | new v os =>
        simp only [Eff.hp] at h1
        cases hos : Heap.get os id with
        | none => rw [hos] at h1; exact up h1
        | some o' =>
          simp only [effOk, Bool.and_eq_true] at h4
          have : ∀ (l : Heap), (l.all fun p => p.1 / 256 == (rid + 1) * 128 + k) = true → ∀ o', l.get id = some o' → Of rid k id := by
            intro l
            induction l with
            | nil => intro _ o' h; simp [Heap.get] at h
            | cons a r ihl =>
              intro hall o' hg
              simp only [List.all_cons, Bool.and_eq_true, beq_iff_eq] at hall
              simp only [Heap.get] at hg
              split at hg
              · rename_i e; rw [← e]; exact hall.1
              · exact ihl hall.2 o' hg
          exact ⟨k, this os h4.1.2 o' hos, by omega, by omega, .inl ⟨v, os, hE⟩⟩

/-- What a write may find was made by operations ahead of it. -/
theorem Dr.wr_own (D : Dr P Eqs Sg F rid n ops b T H E) {q : Nat} (hil : q < ops.size) (hiw : IsW E q) : ∀ id, H q id ≠ none → InS rid (Bit b q) id := fun id hne hreg => by
  obtain ⟨j, h1, h2, h2', h3⟩ := D.names q (by omega) id hne hreg
  rw [(h1.parts h2').2]
  rcases h3 with h3 | ⟨w', h5, h6, h8⟩
  · rcases D.solo hil hiw (D.new_nf (by omega) h3) (by omega) with ⟨_, h9⟩ | ⟨h9, _⟩
    · exact h9
    · omega
  · have hqw : Bit b q w' := by
      rcases D.solo hil hiw (D.w_nf (by omega) h6) (by omega) with ⟨_, h9⟩ | ⟨h9, _⟩
      · exact h9
      · omega
    rcases h8 with rfl | h8
    · exact hqw
    · exact bef_trans D.bef q w' j hil hqw h8

/-- A slot between two operations that neither is the place of. -/
theorem Dr.t_between (D : Dr P Eqs Sg F rid n ops b T H E) {d p : Nat} : ∀ (q : Nat), p ≤ q → q ≤ ops.size → (∀ m o, p ≤ m → m < q → ops[m]? = some o → o.dst ≠ some d) → T q d = T p d
  | 0, h, _, _ => by rw [Nat.le_zero.1 h]
  | q + 1, h, hq, hm => by
    by_cases e : p = q + 1
    · rw [e]
    · have ho := Array.getElem?_eq_getElem (show q < ops.size by omega)
      have ih := D.t_between q (by omega) (by omega) fun m o h1 h2 => hm m o h1 (by omega)
      rw [← ih]
      have hd := hm q _ (by omega) (by omega) ho
      have key : ∀ v, setT (T q) (ops[q]).dst v d = T q d := fun v => by
        cases hdst : (ops[q]).dst with
        | none => rfl
        | some d' =>
          simp only [setT, upd]
          rw [if_neg]
          rintro rfl
          exact hd hdst
      rcases D.step q _ ho with ⟨e, s, hh, _, _, _, _, _, _, h7, _⟩ | ⟨_, _, h3, _⟩
      · rw [h7, key]
      · rw [h3, key]

/-- What an operation looks at is left alone by the writes that are open against it. -/
theorem Dr.steady (D : Dr P Eqs Sg F rid n ops b T H E) {i k : Nat} {o : Oper} {x : Operand} (ho : ops[i]? = some o) (hl : lookAt o.op = some x) (hk : k < ops.size) (hw : IsW E k) (hne : i ≠ k) (h1 : ¬ Bit b i k) (h2 : ¬ Bit b k i)
    {s : List (Nat × AV)} (hs : look s = T i) {id : Nat} (hid : id ∈ footV (ρ s x)) : H (k + 1) id = H k id := by
  have hil := (Array.getElem?_eq_some_iff.1 ho).1
  obtain ⟨v, h', hE⟩ := hw
  have hok := Array.getElem?_eq_getElem hk
  obtain ⟨sk, hh, hsk, hhh, ⟨e0, he0, hfe, hcl⟩, h4, _, _, h7⟩ := D.ran hok hE
  simp only [effOk, Bool.and_eq_true] at h4
  have h5 : soloOk ops b k = true := by simpa using h4.1.1
  have h6 := List.all_eq_true.1 h5 i (List.mem_range.2 hil)
  rw [ho, hok] at h6
  have b1 : (b.getD i 0).testBit k = false := Bool.eq_false_iff.2 h1
  have b2 : (b.getD k 0).testBit i = false := Bool.eq_false_iff.2 h2
  have b3 : (i == k) = false := by simp [hne]
  simp only [b1, b2, b3, (look_free hl).1, Bool.false_or, Bool.and_eq_true] at h6
  obtain ⟨hfr, hfine⟩ := h6
  have hft : ftOf ops b k sk ops[k] = feet ops b k sk := by unfold ftOf; rw [if_pos hfr]
  have hρ : ρ sk x = ρ s x := by
    cases x with
    | tmp d =>
      simp only [ρ, hsk, hs]
      unfold lookFine at hfine
      rw [ho] at hfine
      simp only [Option.bind_some, hl] at hfine
      have hm : ∀ m o', min k i ≤ m → m < max k i → ops[m]? = some o' → o'.dst ≠ some d := fun m o' g1 g2 g3 hd => by
        have g4 := List.all_eq_true.1 hfine m (List.mem_range.2 (by omega))
        rw [g3] at g4
        simp [hd, g1, g2] at g4
      rcases Nat.lt_or_ge i k with g | g
      · exact D.t_between k (by omega) (by omega) fun m o' g1 g2 => hm m o' (by omega) (by omega)
      · exact (D.t_between i (by omega) (by omega) fun m o' g1 g2 => hm m o' (by omega) (by omega)).symm
    | _ => rfl
  have hmem : id ∈ ftOf ops b k sk ops[k] := by
    rw [hft]
    unfold feet
    refine List.mem_flatMap.2 ⟨i, List.mem_range.2 hil, ?_⟩
    rw [b1, b2, b3, ho]
    simp only [Bool.or_self, Bool.false_eq_true, if_false, Option.bind_some, hl]
    rw [hρ]; exact hid
  cases e0 with
  | val v0 => cases hfe
  | new v0 os => cases hfe
  | wr v0 h1' =>
    cases hfe
    simp only [clearE, Bool.and_eq_true] at hcl
    have hn : h1'.get id = none := by
      cases e : h1'.get id with
      | none => rfl
      | some ob => exact absurd hmem (clearH_spec hcl.2 id ob e).1
    rw [h7]
    show (frameIn _ hh h1').get id = H k id
    rw [frameIn_get, if_pos hmem, hn, hhh id]
    cases hid' : H k id with
    | none => simp
    | some ob =>
      have h8 := D.wr_own hk ⟨_, _, hE⟩ id (by rw [hid']; simp)
      have h9 : idOk rid (b.getD k 0) id = true := by
        unfold idOk
        by_cases hr : id / 32768 = rid + 1
        · have := h8 hr
          unfold Bit at this
          rw [this]; simp
        · simp [hr]
      rw [if_pos h9]
end
end Go.Vs

set_option linter.unusedSimpArgs false
set_option linter.unusedVariables false
namespace Go.Vs
variable {P : Program} {Eqs : TypeId → Option K} {Sg : FuncId → Option Sig} {F : (f : FuncId) → (g : Sig) → g.A → Option g.B} {R : Type}
variable {Z Z' Z0 : Nat → Prop} {ψ ψ' ψ0 : Nat → Value} {h h' : Hp} {w w' w0 : World} {B0 : Nat} {O N : Nat → Prop}
variable {rid n : Nat} {ops : Array Oper} {b : Array Nat} {T : Nat → Nat → AV} {H : Nat → Hp} {E : Nat → Option Eff}

/-- What was done so far, S, against the run in the text's order. -/
structure Dj (rid : Nat) (ops : Array Oper) (b : Array Nat) (T : Nat → Nat → AV) (H : Nat → Hp) (E : Nat → Option Eff) (S : Nat → Prop) (Tc : Nat → AV) (h : Hp) : Prop where
  lt : ∀ i, S i → i < ops.size
  closed : ∀ i j, S i → Bit b i j → S j
  heap : ∃ q, q ≤ ops.size ∧ (∀ k, k < q → IsW E k → S k) ∧ (q < ops.size → IsW E q ∧ ¬ S q) ∧ ∀ id, (InS rid S id → h id = H q id) ∧ (¬ InS rid S id → h id = none)
  tdone : ∀ j o d, S j → ops[j]? = some o → o.dst = some d → Tc d = T (j + 1) d
  told : ∀ d, (∀ j o, S j → ops[j]? = some o → o.dst ≠ some d) → Tc d = T 0 d

theorem Dr.t_next (D : Dr P Eqs Sg F rid n ops b T H E) {k : Nat} {o : Oper} (ho : ops[k]? = some o) {d : Nat} (hd : o.dst ≠ some d) : T (k + 1) d = T k d := by
  have : ∀ v, setT (T k) o.dst v d = T k d := fun v => by
    cases hdst : o.dst with
    | none => rfl
    | some d' =>
      simp only [setT, upd]
      rw [if_neg]
      rintro rfl
      exact hd hdst
  rcases D.step k o ho with ⟨e, s, hh, _, _, _, _, _, _, h7, _⟩ | ⟨_, _, h3, _⟩
  · rw [h7, this]
  · rw [h3, this]
theorem Dr.t_before (D : Dr P Eqs Sg F rid n ops b T H E) {d : Nat} : ∀ (i : Nat), i ≤ ops.size → (∀ k o, k < i → ops[k]? = some o → o.dst ≠ some d) → T i d = T 0 d
  | 0, _, _ => rfl
  | i + 1, hi, hk => by
    rw [D.t_next (Array.getElem?_eq_getElem (show i < ops.size by omega)) (hk i _ (by omega) (Array.getElem?_eq_getElem (by omega)))]
    exact D.t_before i (by omega) fun k o h1 h2 => hk k o (by omega) h2
theorem Dr.t_after (D : Dr P Eqs Sg F rid n ops b T H E) {d j : Nat} {oj : Oper} (hj : ops[j]? = some oj) (hd : oj.dst = some d) : ∀ (i : Nat), i ≤ ops.size → j < i → T i d = T (j + 1) d
  | 0, _, h => by omega
  | i + 1, hi, h => by
    by_cases e : j = i
    · rw [e]
    · have ho := Array.getElem?_eq_getElem (show i < ops.size by omega)
      rw [D.t_next ho (fun hdi => e (D.dst_inj hj ho hd hdi))]
      exact D.t_after hj hd i (by omega) (by omega)

/-- What an operation that is ready looks at is what it looked at in the text's order. -/
theorem Dr.looks (D : Dr P Eqs Sg F rid n ops b T H E) {S : Nat → Prop} {Tc : Nat → AV} (dj : Dj rid ops b T H E S Tc h) {i : Nat} {o : Oper} (ho : ops[i]? = some o) (hS : ¬ S i) (hb : ∀ j, Bit b i j → S j) {d : Nat} (hd : d ∈ o.looksAt ops) : Tc d = T i d := by
  have hi := (Array.getElem?_eq_some_iff.1 ho).1
  by_cases hex : ∃ (j : Nat) (oj : Oper), ops[j]? = some oj ∧ oj.dst = some d
  · obtain ⟨j, oj, hj, hdj⟩ := hex
    have old : ¬ S j → Tc d = T 0 d := fun hn => dj.told d fun j' o' hs ho' hd' => hn (by rw [D.dst_inj hj ho' hdj hd']; exact hs)
    have bef : i ≤ j → T i d = T 0 d := fun hij => D.t_before i (by omega) fun k o' hk ho' hd' => by have := D.dst_inj hj ho' hdj hd'; omega
    rcases Nat.lt_trichotomy j i with hlt | rfl | hgt
    · rcases D.pairs hj ho hlt with h1 | h1
      · rw [dj.tdone j oj d (hb j h1) hj hdj, D.t_after hj hdj i (by omega) hlt]
      · exact absurd hd ((Oper.apart_spec h1).1 d hdj)
    · rw [old hS, bef (Nat.le_refl _)]
    · rcases D.pairs ho hj hgt with h1 | h1
      · rw [old (fun hs => hS (dj.closed j i hs h1)), bef (by omega)]
      · exact absurd hd ((Oper.apart_spec h1).2.2 d hdj)
  · rw [dj.told d fun j o' _ ho' hd' => hex ⟨j, o', ho', hd'⟩, D.t_before i (by omega) fun k o' _ ho' hd' => hex ⟨k, o', ho', hd'⟩]

theorem Dr.t_step {S : Nat → Prop} {Tc : Nat → AV} (D : Dr P Eqs Sg F rid n ops b T H E) (dj : Dj rid ops b T H E S Tc h) {i : Nat} {o : Oper} (ho : ops[i]? = some o) (hS : ¬ S i) {v : AV} (hv : T (i + 1) = setT (T i) o.dst v) :
    (∀ j o' d, (S j ∨ j = i) → ops[j]? = some o' → o'.dst = some d → setT Tc o.dst v d = T (j + 1) d) ∧ (∀ d, (∀ j o', (S j ∨ j = i) → ops[j]? = some o' → o'.dst ≠ some d) → setT Tc o.dst v d = T 0 d) := by
  constructor
  · intro j o' d hj ho' hd
    rcases hj with hj | rfl
    · have hne : j ≠ i := fun e => hS (e ▸ hj)
      have : setT Tc o.dst v d = Tc d := by
        cases hdst : o.dst with
        | none => rfl
        | some d' =>
          simp only [setT, upd]
          rw [if_neg]
          rintro rfl
          exact hne (D.dst_inj ho' ho hd hdst)
      rw [this]; exact dj.tdone j o' d hj ho' hd
    · rw [ho] at ho'; cases ho'
      rw [hv, hd]; simp [setT, upd]
  · intro d hd
    have : setT Tc o.dst v d = Tc d := by
      cases hdst : o.dst with
      | none => rfl
      | some d' =>
        simp only [setT, upd]
        rw [if_neg]
        rintro rfl
        exact hd i o (.inr rfl) ho hdst
    rw [this]; exact dj.told d fun j o' hj => hd j o' (.inl hj)

theorem of_uniq {i k id : Nat} (h1 : Of rid i id) (h2 : Of rid k id) : i = k := by unfold Of at h1 h2; omega

section
variable {S : Nat → Prop} {Tc : Nat → AV}

/-- Between what was done last and the next write, nothing else writes. -/
theorem Dr.calm (D : Dr P Eqs Sg F rid n ops b T H E) (dj : Dj rid ops b T H E S Tc h) {i q : Nat} (hi : Nf ops i) (hS : ¬ S i) (hq : q ≤ ops.size) (hw : ∀ k, k < q → IsW E k → S k) : ∀ k, i ≤ k → k < q → ¬ IsW E k := by
  intro k hik hkq hk
  have hsk := hw k hkq hk
  have hne : i ≠ k := fun e => hS (e ▸ hsk)
  rcases D.solo (by omega) hk hi hne with ⟨_, h1⟩ | ⟨h1, _⟩
  · exact hS (dj.closed k i hsk h1)
  · omega

/-- The heap that an operation saw in the text's order is there. -/
theorem Dr.seen (D : Dr P Eqs Sg F rid n ops b T H E) (dj : Dj rid ops b T H E S Tc h) {i : Nat} (hi : Nf ops i) (hS : ¬ S i) (hb : ∀ j, Bit b i j → S j) {hh : Heap} (hhh : ∀ id, Heap.get hh id = if idOk rid (b.getD i 0) id then H i id else none) :
    ∀ id o, hh.get id = some o → h id = some o := by
  obtain ⟨q, hq, hw, hnext, hheap⟩ := dj.heap
  have hil : i < ops.size := by obtain ⟨o, ho, hf1, hf2⟩ := hi; exact (Array.getElem?_eq_some_iff.1 ho).1
  have hiq : i ≤ q := by
    rcases Nat.lt_or_ge q i with h1 | h1
    · obtain ⟨h2, h3⟩ := hnext (by omega)
      rcases D.solo (by omega) h2 hi (by omega) with ⟨h4, _⟩ | ⟨_, h4⟩
      · omega
      · exact absurd (hb q h4) h3
    · exact h1
  intro id o hid
  rw [hhh] at hid
  split at hid
  · rename_i hok
    have hin : InS rid S id := idOk_ins hb hok
    rw [(hheap id).1 hin, D.between q hiq hq (D.calm dj hi hS hq hw) id fun k hk _ _ ho => ?_, hid]
    have hreg := (ho.parts (by have := D.size; omega)).1
    obtain ⟨j, h1, h2, _⟩ := D.names i (by omega) id (by rw [hid]; simp) hreg
    have := of_uniq h1 ho
    omega
  · cases hid

/-- What an operation looks at is there. -/
theorem Dr.seen_look (D : Dr P Eqs Sg F rid n ops b T H E) (dj : Dj rid ops b T H E S Tc h) {i : Nat} {o : Oper} {x : Operand} (ho : ops[i]? = some o) (hl : lookAt o.op = some x) (hS : ¬ S i) (hb : ∀ j, Bit b i j → S j) {s : List (Nat × AV)} (hs : look s = T i)
    {hh : Heap} (hhh : ∀ id, Heap.get hh id = if idOk rid (b.getD i 0) id then H i id else none) : ∀ id ∈ footV (ρ s x), ∀ ob, hh.get id = some ob → h id = some ob := by
  obtain ⟨q, hq, hw, hnext, hheap⟩ := dj.heap
  have hil := (Array.getElem?_eq_some_iff.1 ho).1
  have h128 := D.size
  intro id hid ob hob
  rw [hhh] at hob
  split at hob
  · rename_i hok
    have hin : InS rid S id := idOk_ins hb hok
    rw [(hheap id).1 hin, ← hob]
    rcases Nat.lt_or_ge q i with hqi | hiq
    · obtain ⟨h2, h3⟩ := hnext (by omega)
      have later : ∀ k, q < k → k < ops.size → Nf ops k → Bit b k q := fun k h4 h5 h6 => by
        rcases D.solo (by omega) h2 h6 (by omega) with ⟨h7, _⟩ | ⟨_, h7⟩
        · omega
        · exact h7
      have notS : ∀ k, q ≤ k → k < i → Nf ops k → ¬ S k := fun k h4 h5 h6 hk => by
        rcases Nat.eq_or_lt_of_le h4 with e | h7
        · exact h3 (e ▸ hk)
        · exact h3 (dj.closed k q hk (later k h7 (by omega) h6))
      symm
      refine D.between2 i (by omega) (by omega) id (fun k h4 h5 h6 => ?_) (fun k h4 h5 h6 h7 => ?_)
      · have hns := notS k h4 h5 (D.w_nf (by omega) h6)
        exact D.steady ho hl (by omega) h6 (by omega) (fun hbit => hns (hb k hbit)) (fun hbit => by have := bef_lt D.bef k i (by omega) hbit; omega) hs hid
      · have hns := notS k h4 h5 (D.new_nf (by omega) h6)
        have h8 := h7.parts (show k < 128 by omega)
        have h9 := hin h8.1
        rw [h8.2] at h9
        exact hns h9
    · refine D.between2 q hiq hq id (fun k h4 h5 h6 => ?_) (fun k h4 h5 h6 h7 => ?_)
      · have hsk := hw k h5 h6
        have hne : i ≠ k := fun e => hS (e ▸ hsk)
        exact D.steady ho hl (by omega) h6 hne (fun hbit => by have := bef_lt D.bef i k hil hbit; omega) (fun hbit => hS (dj.closed k i hsk hbit)) hs hid
      · obtain ⟨j, h8, h9, _⟩ := D.names i (by omega) id (by rw [hob]; simp) (h7.parts (by omega)).1
        have := of_uniq h8 h7
        omega
  · cases hob

/-- What is next to be written. -/
theorem next_q (E : Nat → Option Eff) (S : Nat → Prop) (m : Nat) : ∃ q, q ≤ m ∧ (∀ k, k < q → IsW E k → S k) ∧ (q < m → IsW E q ∧ ¬ S q) := by
  classical
  induction m with
  | zero => exact ⟨0, Nat.le_refl _, fun k hk => by omega, fun h => by omega⟩
  | succ m ih =>
    obtain ⟨q, h1, h2, h3⟩ := ih
    by_cases hq : q < m
    · exact ⟨q, by omega, h2, fun _ => h3 hq⟩
    · have : q = m := by omega
      subst this
      by_cases hm : IsW E q ∧ ¬ S q
      · exact ⟨q, by omega, h2, fun _ => hm⟩
      · refine ⟨q + 1, by omega, fun k hk hw => ?_, fun h => by omega⟩
        rcases Nat.lt_or_ge k q with h4 | h4
        · exact h2 k h4 hw
        · have : k = q := by omega
          subst this
          exact Classical.not_not.1 fun hn => hm ⟨hw, hn⟩

theorem ins_or {i id : Nat} (hi : i < 128) : InS rid (fun k => S k ∨ k = i) id ↔ InS rid S id ∨ Of rid i id := by
  constructor
  · intro h1
    by_cases hr : id / 32768 = rid + 1
    · rcases h1 hr with h2 | h2
      · exact .inl fun _ => h2
      · exact .inr (Of.of hr h2)
    · exact .inl fun h => absurd h hr
  · rintro (h1 | h1) h2
    · exact .inl (h1 h2)
    · exact .inr (h1.parts hi).2

/-- The heap behind an operation that makes and writes nothing. -/
theorem Dr.heap_val (D : Dr P Eqs Sg F rid n ops b T H E) (dj : Dj rid ops b T H E S Tc h) {i : Nat} (hil : i < ops.size) (hS : ¬ S i) (hnn : ¬ IsN E i) (hnw : ¬ IsW E i) :
    ∃ q, q ≤ ops.size ∧ (∀ k, k < q → IsW E k → S k ∨ k = i) ∧ (q < ops.size → IsW E q ∧ ¬ (S q ∨ q = i)) ∧ ∀ id, (InS rid (fun k => S k ∨ k = i) id → h id = H q id) ∧ (¬ InS rid (fun k => S k ∨ k = i) id → h id = none) := by
  obtain ⟨q, hq, hw, hnext, hheap⟩ := dj.heap
  have h128 := D.size
  refine ⟨q, hq, fun k h1 h2 => .inl (hw k h1 h2), fun h1 => ⟨(hnext h1).1, fun h2 => h2.elim (hnext h1).2 fun e => hnw (e ▸ (hnext h1).1)⟩, fun id => ⟨fun h1 => ?_, fun h1 => (hheap id).2 fun h2 => h1 ((ins_or (by omega)).2 (.inl h2))⟩⟩
  rcases (ins_or (S := S) (i := i) (rid := rid) (by omega)).1 h1 with h2 | h2
  · exact (hheap id).1 h2
  · have hn : ¬ InS rid S id := fun h3 => h3.not_of (by omega) hS h2
    rw [(hheap id).2 hn]
    symm
    apply Classical.not_not.1
    intro hne
    obtain ⟨j, h3, _, _, h4⟩ := D.names q hq id hne (h2.parts (by omega)).1
    have := of_uniq h3 h2
    subst this
    rcases h4 with h4 | ⟨w', h5, h6, h7 | h7⟩
    · exact hnn h4
    · exact hnw (h7 ▸ h6)
    · exact hS (dj.closed w' _ (hw w' h5 h6) h7)

theorem new_own {os : Heap} {i : Nat} (hall : (os.all fun p => p.1 / 256 == (rid + 1) * 128 + i) = true) : ∀ id o, os.get id = some o → Of rid i id := by
  induction os with
  | nil => intro id o h; simp [Heap.get] at h
  | cons a r ih =>
    intro id o hg
    simp only [List.all_cons, Bool.and_eq_true, beq_iff_eq] at hall
    simp only [Heap.get] at hg
    split at hg
    · rename_i e; rw [← e]; exact hall.1
    · exact ih hall.2 id o hg

theorem Dr.heap_new (D : Dr P Eqs Sg F rid n ops b T H E) (dj : Dj rid ops b T H E S Tc h) {i : Nat} {o : Oper} (ho : ops[i]? = some o) (hS : ¬ S i) (hb : ∀ j, Bit b i j → S j) {v : AV} {os : Heap} (hE : E i = some (.new v os)) :
    ∃ q, q ≤ ops.size ∧ (∀ k, k < q → IsW E k → S k ∨ k = i) ∧ (q < ops.size → IsW E q ∧ ¬ (S q ∨ q = i)) ∧ ∀ id, (InS rid (fun k => S k ∨ k = i) id → (Eff.new v os).hp h id = H q id) ∧ (¬ InS rid (fun k => S k ∨ k = i) id → (Eff.new v os).hp h id = none) := by
  obtain ⟨q, hq, hw, hnext, hheap⟩ := dj.heap
  have h128 := D.size
  have hil := (Array.getElem?_eq_some_iff.1 ho).1
  have hnw : ¬ IsW E i := fun ⟨v', h', h1⟩ => by rw [hE] at h1; cases h1
  have hnf := D.new_nf hil ⟨v, os, hE⟩
  obtain ⟨s, hh, _, _, _, h4, _, _, h7⟩ := D.ran ho hE
  simp only [effOk, Bool.and_eq_true] at h4
  have hown := new_own (rid := rid) h4.1.2
  have hiq : i < q := by
    rcases Nat.lt_or_ge i q with h1 | h1
    · exact h1
    · obtain ⟨h2, h3⟩ := hnext (by omega)
      have hne : i ≠ q := fun e => hnw (e ▸ h2)
      rcases D.solo (by omega) h2 hnf hne with ⟨h4, _⟩ | ⟨_, h4⟩
      · omega
      · exact absurd (hb q h4) h3
  refine ⟨q, hq, fun k h1 h2 => .inl (hw k h1 h2), fun h1 => ⟨(hnext h1).1, fun h2 => h2.elim (hnext h1).2 fun e => hnw (e ▸ (hnext h1).1)⟩, fun id => ⟨fun h1 => ?_, fun h1 => ?_⟩⟩
  · simp only [Eff.hp]
    by_cases h2 : Of rid i id
    · have hn : ¬ InS rid S id := fun h3 => h3.not_of (by omega) hS h2
      have e1 : H i id = none := Classical.not_not.1 fun hne => by
        obtain ⟨j, h3, h4, _⟩ := D.names i (by omega) id hne (h2.parts (by omega)).1
        have := of_uniq h3 h2
        omega
      have e2 : H (i + 1) id = Heap.get os id := by
        rw [h7]; simp only [Eff.hp]; rw [e1]; cases Heap.get os id <;> rfl
      have e3 : H q id = H (i + 1) id := D.between q hiq hq (fun k h3 h4 => D.calm dj hnf hS hq hw k (by omega) h4) id fun k h3 _ _ h5 => by
        have := of_uniq h5 h2; omega
      rw [e3, e2, (hheap id).2 hn]; cases Heap.get os id <;> rfl
    · have h3 : InS rid S id := ((ins_or (by omega)).1 h1).resolve_right h2
      cases hos : Heap.get os id with
      | some o' => exact absurd (hown id o' hos) h2
      | none => exact (hheap id).1 h3
  · have h2 : ¬ InS rid S id := fun h2 => h1 ((ins_or (by omega)).2 (.inl h2))
    have h3 : ¬ Of rid i id := fun h2 => h1 ((ins_or (by omega)).2 (.inr h2))
    simp only [Eff.hp]
    cases hos : Heap.get os id with
    | some o' => exact absurd (hown id o' hos) h3
    | none => exact (hheap id).2 h2

/-- A write: all that touched memory ahead of it was done, and nothing else. -/
theorem Dr.heap_wr (D : Dr P Eqs Sg F rid n ops b T H E) (dj : Dj rid ops b T H E S Tc h) {i : Nat} {o : Oper} (ho : ops[i]? = some o) (hS : ¬ S i) (hb : ∀ j, Bit b i j → S j) {v : AV} {h' : Heap} (hE : E i = some (.wr v h')) :
    (∀ hh : Heap, (∀ id, hh.get id = if idOk rid (b.getD i 0) id then H i id else none) → hh.get = h) ∧
    ∃ q, q ≤ ops.size ∧ (∀ k, k < q → IsW E k → S k ∨ k = i) ∧ (q < ops.size → IsW E q ∧ ¬ (S q ∨ q = i)) ∧ ∀ id, (InS rid (fun k => S k ∨ k = i) id → h'.get id = H q id) ∧ (¬ InS rid (fun k => S k ∨ k = i) id → h'.get id = none) := by
  obtain ⟨q, hq, hw, hnext, hheap⟩ := dj.heap
  have h128 := D.size
  have hil := (Array.getElem?_eq_some_iff.1 ho).1
  have hiw : IsW E i := ⟨v, h', hE⟩
  have hnf := D.w_nf hil hiw
  obtain ⟨s, hh0, _, _, _, h4, _, _, h7⟩ := D.ran ho hE
  simp only [effOk, Bool.and_eq_true] at h4
  have hqi : q = i := by
    rcases Nat.lt_trichotomy q i with h1 | h1 | h1
    · obtain ⟨h2, h3⟩ := hnext (by omega)
      rcases D.solo hil hiw (D.w_nf (by omega) h2) (by omega) with ⟨_, h5⟩ | ⟨h5, _⟩
      · exact absurd (hb q h5) h3
      · omega
    · exact h1
    · exact absurd (hw i h1 hiw) hS
  subst hqi
  have own : ∀ id, H q id ≠ none → InS rid (Bit b q) id := fun id hne hreg => by
    obtain ⟨j, h1, h2, h2', h3⟩ := D.names q hq id hne hreg
    rw [(h1.parts h2').2]
    rcases h3 with h3 | ⟨w', h5, h6, h8⟩
    · rcases D.solo hil hiw (D.new_nf (by omega) h3) (by omega) with ⟨_, h9⟩ | ⟨h9, _⟩
      · exact h9
      · omega
    · have hqw : Bit b q w' := by
        rcases D.solo hil hiw (D.w_nf (by omega) h6) (by omega) with ⟨_, h9⟩ | ⟨h9, _⟩
        · exact h9
        · omega
      rcases h8 with rfl | h8
      · exact hqw
      · exact bef_trans D.bef q w' j hil hqw h8
  refine ⟨fun hh hhh => ?_, ?_⟩
  · funext id
    rw [hhh id]
    cases hid : H q id with
    | none =>
      have : h id = none := by
        by_cases h1 : InS rid S id
        · rw [(hheap id).1 h1, hid]
        · exact (hheap id).2 h1
      rw [this]; split <;> rfl
    | some ob =>
      have h1 := own id (by rw [hid]; simp)
      have h2 : InS rid S id := fun hr => hb _ (h1 hr)
      have h3 : idOk rid (b.getD q 0) id = true := by
        unfold idOk
        by_cases hr : id / 32768 = rid + 1
        · have := h1 hr
          unfold Bit at this
          rw [this]; simp
        · simp [hr]
      rw [h3, (hheap id).1 h2, hid]; rfl
  · obtain ⟨q', h1, h2, h3⟩ := next_q E (fun k => S k ∨ k = q) ops.size
    have hge : q + 1 ≤ q' := by
      rcases Nat.lt_or_ge q q' with h5 | h5
      · exact h5
      · obtain ⟨h6, h8⟩ := h3 (by omega)
        rcases Nat.lt_or_ge q' q with h9 | h9
        · exact absurd (.inl (hw q' h9 h6)) h8
        · exact absurd (.inr (by omega)) h8
    have e1 : H (q + 1) = h'.get := by rw [h7]; rfl
    have hb2 : ∀ j, (b.getD q 0 ||| 2 ^ q).testBit j = true → S j ∨ j = q := fun j hj => by
      rw [Nat.testBit_or, Bool.or_eq_true, Nat.testBit_two_pow] at hj
      exact hj.imp (hb j) (fun h => (of_decide_eq_true h).symm)
    refine ⟨q', h1, h2, h3, fun id => ⟨fun h5 => ?_, fun h5 => ?_⟩⟩
    · rw [D.between q' hge h1 (fun k h6 h8 h9 => ?_) id (fun k h6 h8 h9 h10 => ?_), e1]
      · have hk := h2 k h8 h9
        have hsk : S k := hk.resolve_right (by omega)
        rcases D.solo (by omega) h9 hnf (by omega) with ⟨_, h11⟩ | ⟨h11, _⟩
        · exact hS (dj.closed k q hsk h11)
        · omega
      · have hk := h5 (h10.parts (by omega)).1
        rw [(h10.parts (by omega)).2] at hk
        have hsk : S k := hk.resolve_right (by omega)
        rcases D.solo hil hiw (D.new_nf (by omega) h9) (by omega) with ⟨h11, _⟩ | ⟨_, h11⟩
        · omega
        · exact hS (dj.closed k q hsk h11)
    · cases hid : h'.get id with
      | none => rfl
      | some ob => exact absurd ((mentH_spec hb2 h4.2 id ob hid).1) h5
end

section
variable {S : Nat → Prop} {Tc : Nat → AV}

theorem looks_operand {o : Oper} {d : Nat} (h : Operand.tmp d ∈ o.op.operands) : d ∈ o.looksAt ops :=
  List.mem_append_left _ (List.mem_filterMap.2 ⟨.tmp d, by simpa using h, rfl⟩)
theorem looks_guard {o : Oper} {j d : Nat} {want : Bool} (hg : o.guard = some (j, want)) (hd : (ops[j]?).bind (·.dst) = some d) : d ∈ o.looksAt ops := by
  unfold Oper.looksAt
  rw [hg]
  exact List.mem_append_right _ (by simp only [hd]; simp)

theorem Dr.wanted (D : Dr P Eqs Sg F rid n ops b T H E) (dj : Dj rid ops b T H E S Tc h) {a : Act} {i : Nat} {o : Oper} (ho : ops[i]? = some o) (hS : ¬ S i) (hb : ∀ j, Bit b i j → S j) (t : TRep Z ψ h w n Tc a) {c : Bool} (hw : Wants ops (T i) o c) :
    Region.wanted o (yielded ops a.tmps) = c := by
  unfold Wants at hw
  split at hw
  · rename_i hg; rw [hw]; simp [Region.wanted, hg]
  · rename_i j want hg
    obtain ⟨d, hd, hc⟩ := hw
    have e := D.looks dj ho hS hb (looks_guard hg hd)
    rcases hc with ⟨u, h1, h2⟩ | ⟨vs, h1, h2⟩
    · rw [wanted_rep t hg hd (e.trans h1), h2]
    · rw [wanted_skip t hg hd (e.trans h1), h2]

/-- An operation that is ready is done: what held, holds. -/
theorem Dr.ready_step (D : Dr P Eqs Sg F rid n ops b T H E) (V : Env P Eqs Sg F) {i : Nat} {o : Oper} {a : Act} (ho : ops[i]? = some o) (hS : ¬ S i) (hb : ∀ j, Bit b i j → S j) (dj : Dj rid ops b T H E S Tc h) (j : J (InS rid S) n Z0 w0 O ψ0 Z ψ Tc h a w)
    {K : Act → World → Prop} {Q : Exit → Act → World → Prop} (hk : ∀ Tc' h' a' w' Z' ψ', Dj rid ops b T H E (fun k => S k ∨ k = i) Tc' h' → J (InS rid fun k => S k ∨ k = i) n Z0 w0 O ψ0 Z' ψ' Tc' h' a' w' → K a' w') : wpOp P ops Q i K a w := by
  have hil := (Array.getElem?_eq_some_iff.1 ho).1
  have h128 := D.size
  have hdo := D.dsts i o ho
  have hlt : ∀ k, (S k ∨ k = i) → k < ops.size := fun k hk => hk.elim (dj.lt k) (fun e => e ▸ hil)
  have hcl' : ∀ k j, (S k ∨ k = i) → Bit b k j → S j ∨ j = i := fun k j hk hj => .inl (hk.elim (fun h => dj.closed k j h hj) (fun e => hb j (e ▸ hj)))
  unfold wpOp
  rw [ho]
  simp only []
  cases hE : E i with
  | none =>
    obtain ⟨h1, h2, h3⟩ := D.skipped ho hE
    rw [D.wanted dj ho hS hb j.tr h1]
    simp only [Bool.false_eq_true, if_false]
    obtain ⟨t1, t2⟩ := D.t_step dj ho hS h2
    refine hk _ h _ w Z ψ ⟨hlt, hcl', D.heap_val dj hil hS (fun ⟨v, os, h⟩ => by rw [hE] at h; cases h) (fun ⟨v, os, h⟩ => by rw [hE] at h; cases h), t1, t2⟩ (j.skip hdo fun id hp hr => .inl (hp hr))
  | some e =>
    obtain ⟨s, hh, h1, h2, h3, h4, h5, h6, h7⟩ := D.ran ho hE
    rw [D.wanted dj ho hS hb j.tr h5]
    simp only [if_true]
    refine .inl ?_
    obtain ⟨t1, t2⟩ := D.t_step dj ho hS h6
    have hT : ∀ x ∈ o.op.operands, Rep Z ψ h w (ρ s x) (a.eval x) ∧ Ment (InS rid S) (ρ s x) := fun x hx => by
      cases x with
      | tmp d =>
        have e1 : look s d = Tc d := by rw [h1]; exact (D.looks dj ho hS hb (looks_operand hx)).symm
        simp only [ρ, e1]
        exact ⟨j.tr.rep d, j.tm d⟩
      | const v => exact ⟨ofVs_rep v, ofVs_ment1 _ v⟩
      | global g => exact ⟨by simp only [ρ, Rep], by simp only [ρ, Ment]⟩
      | func f => exact ⟨by simp only [ρ, Rep, RepL, Act.eval]; exact ⟨#[], rfl, rfl⟩, by simp only [ρ, Ment, MentL]⟩
    have hsp := effOk_spec (hh := []) j.hm (fun k hk => hb k hk) h4
    obtain ⟨e0, h3, hfe, hcl⟩ := h3
    cases e0 with
    | wr v0 h1' =>
      simp only [frameE] at hfe
      subst hfe
      have hwr := D.heap_wr dj ho hS hb hE
      have hhh := hwr.1 hh h2
      subst hhh
      refine J.opF V (rid := rid) (i := i) (fun _ id hp => hp.not_of (by omega) hS) j hdo (fun x hx => (hT x hx).1) (fun x hx => (hT x hx).2) h3 hcl (p' := InS rid fun k => S k ∨ k = i) (fun id hp hr => .inl (hp hr)) hsp.1 hsp.2 fun a' w' Z' ψ' j' => ?_
      exact hk _ _ a' w' Z' ψ' ⟨hlt, hcl', hwr.2, t1, t2⟩ j'
    | val v0 =>
      simp only [frameE] at hfe
      subst hfe
      -- the heap that is seen
      have hsee : ∃ hh' : Heap, (∀ id o, hh'.get id = some o → h id = some o) ∧ opSem P Eqs Sg F (opId rid i) hh' s o some = some (.val v0) := by
        cases hf : freeOp o.op with
        | true => exact ⟨[], fun id o h => by simp [Heap.get] at h, by rw [free_heap hf (h' := dels hh (ftOf ops b i s o))]; exact h3⟩
        | false =>
          cases hla : lookAt o.op with
          | some x =>
            have hft : ftOf ops b i s o = [] := by unfold ftOf; rw [(look_free hla).2]; rfl
            rw [hft] at h3
            have h3' : opSem P Eqs Sg F (opId rid i) hh s o some = some (.val v0) := h3
            have hget : ∀ id, (frameIn (footV (ρ s x)) hh []).get id = if id ∈ footV (ρ s x) then hh.get id else none := fun id => by
              rw [frameIn_get]
              split
              · cases hh.get id <;> rfl
              · rfl
            refine ⟨frameIn (footV (ρ s x)) hh [], fun id ob hid => ?_, ?_⟩
            · rw [hget] at hid
              split at hid
              · rename_i hm; exact D.seen_look dj ho hla hS hb h1 h2 id hm ob hid
              · cases hid
            · rw [look_local hla (hh := hh) (fun id hm => by rw [hget, if_pos hm])]; exact h3'
          | none => exact ⟨_, fun id ob hid => D.seen dj ⟨o, ho, hf, hla⟩ hS hb h2 id ob (by rw [get_dels] at hid; split at hid; cases hid; exact hid), h3⟩
      obtain ⟨hh', hs1, hs2⟩ := hsee
      refine J.op V (rid := rid) (i := i) (fun _ id hp => hp.not_of (by omega) hS) j hdo (fun x hx => (hT x hx).1) (fun x hx => (hT x hx).2) hs1 hs2 (fun v hw he => by cases he) (p' := InS rid fun k => S k ∨ k = i) (fun id hp hr => .inl (hp hr)) hsp.1 hsp.2 fun a' w' Z' ψ' j' => ?_
      exact hk _ _ a' w' Z' ψ' ⟨hlt, hcl', D.heap_val dj hil hS (fun ⟨v, os, h⟩ => by rw [hE] at h; cases h) (fun ⟨v, os, h⟩ => by rw [hE] at h; cases h), t1, t2⟩ j'
    | new v0 os =>
      simp only [frameE] at hfe
      subst hfe
      have hnf := D.new_nf hil ⟨v0, os, hE⟩
      have hs1 : ∀ id ob, (dels hh (ftOf ops b i s o)).get id = some ob → h id = some ob := fun id ob hid => D.seen dj hnf hS hb h2 id ob (by rw [get_dels] at hid; split at hid; cases hid; exact hid)
      refine J.op V (rid := rid) (i := i) (fun _ id hp => hp.not_of (by omega) hS) j hdo (fun x hx => (hT x hx).1) (fun x hx => (hT x hx).2) hs1 h3 (fun v hw he => by cases he) (p' := InS rid fun k => S k ∨ k = i) (fun id hp hr => .inl (hp hr)) hsp.1 hsp.2 fun a' w' Z' ψ' j' => ?_
      exact hk _ _ a' w' Z' ψ' ⟨hlt, hcl', D.heap_new dj ho hS hb hE, t1, t2⟩ j'

/-- All done. -/
theorem Dr.done (D : Dr P Eqs Sg F rid n ops b T H E) (dj : Dj rid ops b T H E S Tc h) (hall : ∀ k, k < ops.size → S k) : Tc = T ops.size ∧ h = H ops.size := by
  constructor
  · funext d
    by_cases hex : ∃ (j : Nat) (oj : Oper), ops[j]? = some oj ∧ oj.dst = some d
    · obtain ⟨j, oj, hj, hd⟩ := hex
      have hjl := (Array.getElem?_eq_some_iff.1 hj).1
      rw [dj.tdone j oj d (hall j hjl) hj hd, D.t_after hj hd ops.size (Nat.le_refl _) hjl]
    · rw [dj.told d fun j o' _ ho' hd' => hex ⟨j, o', ho', hd'⟩, D.t_before ops.size (Nat.le_refl _) fun k o' _ ho' hd' => hex ⟨k, o', ho', hd'⟩]
  · obtain ⟨q, hq, _, hnext, hheap⟩ := dj.heap
    have : q = ops.size := by
      rcases Nat.lt_or_ge q ops.size with h1 | h1
      · exact absurd (hall q h1) (hnext h1).2
      · omega
    subst this
    funext id
    by_cases hin : InS rid S id
    · exact (hheap id).1 hin
    · rw [(hheap id).2 hin]
      symm
      apply Classical.not_not.1
      intro hne
      apply hin
      intro hr
      obtain ⟨j, h1, h2, h3, _⟩ := D.names ops.size (Nat.le_refl _) id hne hr
      rw [(h1.parts h3).2]
      exact hall j h2

def unlisted (m : Nat) (listed : Array Bool) : Nat := ((List.range m).filter fun i => !listed.getD i false).length

theorem unlisted_set {m : Nat} {listed : Array Bool} {i : Nat} (hi : i < m) (hs : i < listed.size) (hn : listed.getD i false = false) : unlisted m listed = unlisted m (listed.setIfInBounds i true) + 1 := by
  unfold unlisted
  have key : ∀ (l : List Nat), l.Nodup → i ∈ l → (l.filter fun k => !listed.getD k false).length = (l.filter fun k => !(listed.setIfInBounds i true).getD k false).length + 1 := by
    intro l
    induction l with
    | nil => intro _ h; cases h
    | cons a r ih =>
      intro hnd hm
      rw [List.nodup_cons] at hnd
      rcases List.mem_cons.1 hm with rfl | hm
      · have h2 : (r.filter fun k => !listed.getD k false) = (r.filter fun k => !(listed.setIfInBounds i true).getD k false) := by
          apply List.filter_congr
          intro k hk
          have hne : i ≠ k := fun e => hnd.1 (e ▸ hk)
          rw [getD_set_ne false hne]
        rw [List.filter_cons, List.filter_cons, hn]
        have h3 : (listed.setIfInBounds i true).getD i false = true := by simp [hs]
        rw [h3, h2]; simp
      · have hne : i ≠ a := fun e => hnd.1 (e ▸ hm)
        rw [List.filter_cons, List.filter_cons, getD_set_ne false hne]
        split
        · simp only [List.length_cons]; rw [ih hnd.2 hm]
        · exact ih hnd.2 hm
  exact key _ List.nodup_range (List.mem_range.2 hi)

theorem Dr.any (D : Dr P Eqs Sg F rid n ops b T H E) (V : Env P Eqs Sg F) {Q : Exit → Act → World → Prop} (hQ : ∀ Z ψ a w, J (InS rid fun k => k < ops.size) n Z0 w0 O ψ0 Z ψ (T ops.size) (H ops.size) a w → Q .normal a w) :
    ∀ (fuel : Nat) (listed : Array Bool) (Tc : Nat → AV) (h : Hp) (a : Act) (w : World) (Z : Nat → Prop) (ψ : Nat → Value), listed.size = ops.size → unlisted ops.size listed = fuel →
      Dj rid ops b T H E (fun k => listed.getD k false = true) Tc h → J (InS rid fun k => listed.getD k false = true) n Z0 w0 O ψ0 Z ψ Tc h a w → wpAny P .any ops Q fuel listed a w
  | 0, listed, Tc, h, a, w, Z, ψ, hs, hu, dj, j => by
    have hall : ∀ k, k < ops.size → listed.getD k false = true := fun k hk => by
      unfold unlisted at hu
      have := List.filter_eq_nil_iff.1 (List.eq_nil_of_length_eq_zero hu) k (List.mem_range.2 hk)
      simpa using this
    refine ⟨?_, ?_⟩
    · apply List.eq_nil_iff_forall_not_mem.2
      intro i hi
      obtain ⟨h1, o, h2, _⟩ := mem_ready.1 hi
      have h3 := (Array.getElem?_eq_some_iff.1 h2).1
      have h4 := hall i h3
      rw [Array.getD_eq_getD_getElem?, Array.getElem?_eq_getElem (by omega)] at h1 h4
      simp at h1 h4
      rw [h1] at h4; cases h4
    · obtain ⟨e1, e2⟩ := D.done dj hall
      subst e1; subst e2
      refine hQ Z ψ a w ⟨j.ok, j.tr, fun d => (j.tm d).imp fun id h1 h2 => dj.lt _ (h1 h2), fun id ty cs hb => (j.hm id ty cs hb).imp fun id h1 h2 => dj.lt _ (h1 h2)⟩
  | fuel + 1, listed, Tc, h, a, w, Z, ψ, hs, hu, dj, j => by
    have look : ∀ i, i < ops.size → listed.getD i true = listed.getD i false := fun i hi => by
      rw [Array.getD_eq_getD_getElem?, Array.getD_eq_getD_getElem?, Array.getElem?_eq_getElem (by omega)]; rfl
    refine ⟨fun hr => ?_, fun i hi => ?_⟩
    · exfalso
      -- the first that is not listed is ready
      have hex : ∃ i, i < ops.size ∧ listed.getD i false = false := by
        apply Classical.byContradiction
        intro hn
        unfold unlisted at hu
        rw [List.filter_eq_nil_iff.2] at hu
        · simp at hu
        · intro k hk
          have := fun h => hn ⟨k, List.mem_range.1 hk, h⟩
          cases hl : listed.getD k false with
          | true => simp
          | false => exact absurd hl this
      have key : ∀ i, i < ops.size → listed.getD i false = false → False := by
        intro i
        induction i using Nat.strongRecOn with
        | ind i ih =>
          intro hi hl
          have hmem : i ∈ Region.ready .any ops listed := by
            refine mem_ready.2 ⟨by rw [look i hi]; exact hl, _, Array.getElem?_eq_getElem hi, fun e he hbi => ?_⟩
            have hon := bef_on D.bef (Array.getElem?_eq_getElem hi) (by simpa using he) hbi
            cases hle : listed.getD e.on false with
            | true => rfl
            | false => exact (ih e.on hon (by omega) hle).elim
          rw [hr] at hmem; cases hmem
      obtain ⟨i, h1, h2⟩ := hex
      exact key i h1 h2
    · obtain ⟨h1, o, ho, hall⟩ := mem_ready.1 hi
      have hil := (Array.getElem?_eq_some_iff.1 ho).1
      have hn : listed.getD i false = false := by rw [← look i hil]; exact h1
      have hS : ¬ (listed.getD i false = true) := by rw [hn]; simp
      have hb : ∀ k, Bit b i k → listed.getD k false = true := fun k hk => by
        obtain ⟨e, he, hbi, h2⟩ := (bef_iff D.bef ho).1 hk
        have h3 := hall e (by simpa using he) hbi
        rcases h2 with rfl | h2
        · exact h3
        · exact dj.closed e.on k h3 h2
      refine D.ready_step V ho hS hb dj j fun Tc' h' a' w' Z' ψ' dj' j' => ?_
      have heq : (fun k => listed.getD k false = true ∨ k = i) = (fun k => (listed.setIfInBounds i true).getD k false = true) := by
        funext k
        apply propext
        by_cases e : i = k
        · subst e
          simp [show i < listed.size by omega]
        · rw [getD_set_ne false e]
          constructor
          · rintro (h | h)
            · exact h
            · exact absurd h.symm e
          · exact .inl
      rw [heq] at dj' j'
      exact D.any V hQ fuel _ Tc' h' a' w' Z' ψ' (by simpa using hs) (by have := unlisted_set hil (by omega) hn; omega) dj' j'
end
end Go.Vs

set_option linter.unusedSimpArgs false
set_option linter.unusedVariables false
namespace Go.Vs
variable {P : Program} {Eqs : TypeId → Option K} {Sg : FuncId → Option Sig} {F : (f : FuncId) → (g : Sig) → g.A → Option g.B} {R : Type}
variable {Z Z' Z0 : Nat → Prop} {ψ ψ' ψ0 : Nat → Value} {h h' : Hp} {w w' w0 : World} {B0 : Nat} {O N : Nat → Prop}

theorem look_map (f : AV → AV) (hf : f .no = .no) : ∀ (l : List (Nat × AV)) (d : Nat), look (l.map fun p => (p.1, f p.2)) d = f (look l d)
  | [], d => by simp [look, hf]
  | (i, v) :: r, d => by
    simp only [List.map_cons, look]
    split
    · rfl
    · exact look_map f hf r d

section
variable {rid : Nat}
mutual
theorem purge_rep : ∀ {a : AV} {v : Value}, Rep Z ψ h w a v → Rep Z ψ h w (purgeV rid a) v
  | .ref id s i off, v, hr => by
    simp only [purgeV]
    split
    · simp only [Rep]
    · exact hr
  | .osl id, v, hr => by
    simp only [purgeV]
    split
    · simp only [Rep]
    · exact hr
  | .fn f cap, v, hr => by
    simp only [purgeV, Rep] at hr ⊢
    obtain ⟨vs, e, hl⟩ := hr
    exact ⟨vs, e, purge_repL hl⟩
  | .agg cs, v, hr => by
    simp only [purgeV, Rep] at hr ⊢
    obtain ⟨vs, e, hl⟩ := hr
    exact ⟨vs, e, purge_repL hl⟩
  | .tup cs, v, hr => by
    simp only [purgeV, Rep] at hr ⊢
    obtain ⟨vs, e, hl⟩ := hr
    exact ⟨vs, e, purge_repL hl⟩
  | .no, v, hr => by simpa only [purgeV] using hr
  | .bool _, v, hr => by simpa only [purgeV] using hr
  | .int _ _, v, hr => by simpa only [purgeV] using hr
  | .str _, v, hr => by simpa only [purgeV] using hr
  | .nilp, v, hr => by simpa only [purgeV] using hr
  | .nils, v, hr => by simpa only [purgeV] using hr
  | .fp _ _ _, v, hr => by simpa only [purgeV] using hr
  | .sl _ _ _, v, hr => by simpa only [purgeV] using hr
  | .mp _ _ _, v, hr => by simpa only [purgeV] using hr
theorem purge_repL : ∀ {a : List AV} {v : List Value}, RepL Z ψ h w a v → RepL Z ψ h w (purgeL rid a) v
  | [], v, hr => by simpa only [purgeL] using hr
  | x :: r, v, hr => by
    simp only [purgeL, RepL] at hr ⊢
    obtain ⟨u, us, e, h1, h2⟩ := hr
    exact ⟨u, us, e, purge_rep h1, purge_repL h2⟩
end
mutual
theorem purge_ment : ∀ (a : AV), Ment (InS rid fun _ => False) (purgeV rid a)
  | .ref id s i off => by
    simp only [purgeV]
    split
    · simp only [Ment]
    · rename_i hn; simp only [Ment]; exact fun h => absurd h hn
  | .osl id => by
    simp only [purgeV]
    split
    · simp only [Ment]
    · rename_i hn; simp only [Ment]; exact fun h => absurd h hn
  | .fn f cap => by simp only [purgeV, Ment]; exact purge_mentL cap
  | .agg cs => by simp only [purgeV, Ment]; exact purge_mentL cs
  | .tup cs => by simp only [purgeV, Ment]; exact purge_mentL cs
  | .no => by simp only [purgeV, Ment]
  | .bool _ => by simp only [purgeV, Ment]
  | .int _ _ => by simp only [purgeV, Ment]
  | .str _ => by simp only [purgeV, Ment]
  | .nilp => by simp only [purgeV, Ment]
  | .nils => by simp only [purgeV, Ment]
  | .fp _ _ _ => by simp only [purgeV, Ment]
  | .sl _ _ _ => by simp only [purgeV, Ment]
  | .mp _ _ _ => by simp only [purgeV, Ment]
theorem purge_mentL : ∀ (a : List AV), MentL (InS rid fun _ => False) (purgeL rid a)
  | [] => by simp only [purgeL, MentL]
  | x :: r => by simp only [purgeL, MentL]; exact ⟨purge_ment x, purge_mentL r⟩
end

theorem get_map (f : Ob → Ob) : ∀ (hh : Heap) (i : Nat), Heap.get (hh.map fun p => (p.1, f p.2)) i = (hh.get i).map f
  | [], i => rfl
  | (j, o) :: r, i => by
    simp only [List.map_cons, Heap.get]
    split
    · rfl
    · exact get_map f r i
/-- The heap without what this region named before. -/
def pheap (rid : Nat) (hh : Heap) : Heap := (hh.filter fun p => p.1 / 32768 != rid + 1).map fun p => (p.1, purgeO rid p.2)
theorem pheap_get (hh : Heap) (i : Nat) : (pheap rid hh).get i = if i / 32768 = rid + 1 then none else (hh.get i).map (purgeO rid) := by
  unfold pheap
  rw [get_map (purgeO rid), get_filter (fun i => i / 32768 != rid + 1)]
  by_cases e : i / 32768 = rid + 1 <;> simp [e]
theorem pheap_some {hh : Heap} {i : Nat} {o : Ob} (hg : (pheap rid hh).get i = some o) : i / 32768 ≠ rid + 1 ∧ ∃ o', hh.get i = some o' ∧ o = purgeO rid o' := by
  rw [pheap_get] at hg
  split at hg
  · cases hg
  · rename_i hn
    cases h0 : hh.get i with
    | none => rw [h0] at hg; cases hg
    | some o' => rw [h0] at hg; cases hg; exact ⟨hn, o', rfl, rfl⟩
theorem pheap_ne {hh : Heap} {i : Nat} (hg : (pheap rid hh).get i ≠ none) : hh.get i ≠ none := by
  obtain ⟨o, ho⟩ := Option.ne_none_iff_exists'.1 hg
  obtain ⟨_, o', h1, _⟩ := pheap_some ho
  rw [h1]; simp

theorem Good.purge {hh : Heap} (g : Good Z ψ hh.get w B0 O) : Good Z ψ (pheap rid hh).get w B0 O := by
  refine ⟨fun id ty cs hb => ?_, fun id ok xs hb => ?_, fun id b h1 h2 => g.live id b (pheap_ne h1) h2, fun id id' b h1 h2 h3 h4 => g.apart id id' b (pheap_ne h1) (pheap_ne h2) h3 h4, g.zlt⟩
  · obtain ⟨_, o', h1, h2⟩ := pheap_some hb
    cases o' with
    | own ok xs => cases h2
    | box ty' cs' =>
      cases h2
      obtain ⟨gg, vs, h3, h4, h5, h6⟩ := g.box id ty cs' h1
      exact ⟨gg, vs, h3, h4, purge_repL (h5.less (fun _ h => h) (Same.refl _ _) fun i hi => ⟨pheap_ne hi, rfl⟩), h6⟩
  · obtain ⟨_, o', h1, h2⟩ := pheap_some hb
    cases o' with
    | own ok' xs' => cases h2; exact g.row id _ _ h1
    | box ty' cs' => cases h2

theorem Ok.sub {hp : Hp} (k : Ok Z0 w0 O ψ0 Z ψ h w) (g : Good Z ψ hp w w0.heap.size O) (hn : ∀ id, hp id ≠ none → h id ≠ none) : Ok Z0 w0 O ψ0 Z ψ hp w :=
  ⟨g, k.zsub, k.zfrom, k.os, k.tape, k.output, k.size, k.block, fun i hi hne => k.fix i hi (hn i hne)⟩
end

/-- A world that differs in what is no memory. -/
theorem Good.heapEq (g : Good Z ψ h w B0 O) (e : w'.heap = w.heap) : Good Z ψ h w' B0 O := by
  have sm : Same Z w w' := fun b _ => by rw [e]
  refine ⟨fun id ty cs hb => ?_, fun id ok xs hb => ?_, g.live, g.apart, fun b hb => by rw [e]; exact g.zlt b hb⟩
  · obtain ⟨gg, vs, h1, h2, h3, h4⟩ := g.box id ty cs hb
    exact ⟨gg, vs, h1, by rw [e]; exact h2, h3.less (fun _ h => h) sm (fun i hi => ⟨hi, rfl⟩), h4⟩
  · exact (g.row id ok xs hb).kept (fun _ h => h) sm (fun gg _ => by rw [e])
theorem Ok.heapEq (k : Ok Z0 w0 O ψ0 Z ψ h w) (e : w'.heap = w.heap) (e1 : w'.os = w.os) (e2 : w'.tape = w.tape) (e3 : w'.output = w.output) : Ok Z0 w0 O ψ0 Z ψ h w' :=
  ⟨k.good.heapEq e, k.zsub, k.zfrom, e1.trans k.os, e2.trans k.tape, e3.trans k.output, by rw [e]; exact k.size, fun b hb ho => by rw [e]; exact k.block b hb ho, k.fix⟩
theorem TRep.heapEq {n : Nat} {T : Nat → AV} {a : Act} (t : TRep Z ψ h w n T a) (e : w'.heap = w.heap) : TRep Z ψ h w' n T a :=
  ⟨fun d => (t.rep d).less (fun _ h => h) (fun b _ => by rw [e]) (fun i hi => ⟨hi, rfl⟩), t.size, t.defers⟩

theorem region_sound (V : Env P Eqs Sg F) (hm : P.follows .mixedOrders = true) {n rid : Nat} {ops : Array Oper} {draw : Bool} {st : St} {kk : St → Option R} {r : R} {a : Act} {Q : Exit → Act → World → Prop}
    (hx : execRegion P Eqs Sg F n rid ops draw st kk = some r) (k : Ok Z0 w0 O ψ0 Z ψ st.heap.get w) (t : TRep Z ψ st.heap.get w n (look st.tmps) a)
    (hQ : ∀ st' Z ψ a w, kk st' = some r → Ok Z0 w0 O ψ0 Z ψ st'.heap.get w → TRep Z ψ st'.heap.get w n (look st'.tmps) a → Q .normal a w) : (Code.region rid ops draw).wp P Q a w := by
  obtain ⟨b, hbe, hx⟩ : ∃ b, b = (if draw then Region.before ops else #[]) ∧ (if (ops.all fun o => dstsOk n o) && (!draw || (befOk ops b && (pairOk ops b && nodupB (ops.toList.filterMap (·.dst))))) && decide (ops.size ≤ 128) then
    execOps P Eqs Sg F rid draw ops b (ops.toList.zipIdx.map fun p => (p.2, p.1)) (purge draw rid ops st) kk else none) = some r := ⟨_, rfl, hx⟩
  split at hx
  · rename_i hc
    simp only [Bool.and_eq_true, decide_eq_true_eq] at hc
    obtain ⟨⟨hdst, hdr⟩, hsz⟩ := hc
    have hdst' : ∀ (i : Nat) (o : Oper), ops[i]? = some o → dstsOk n o = true := fun i o ho => Array.all_eq_true_iff_forall_mem.1 hdst o (Array.mem_of_getElem? ho)
    have pk : Ok Z0 w0 O ψ0 Z ψ (pheap rid st.heap).get w := k.sub k.good.purge fun id => pheap_ne
    have pt : TRep Z ψ (pheap rid st.heap).get w n (fun d => purgeV rid (look st.tmps d)) a :=
      ⟨fun d => purge_rep ((t.rep d).less (fun _ h => h) (Same.refl _ _) fun i hi => ⟨pheap_ne hi, rfl⟩), t.size, t.defers⟩
    have pm : HMent (InS rid fun _ => False) (pheap rid st.heap).get := fun i ty cs hb => by
      obtain ⟨_, o', h1, h2⟩ := pheap_some hb
      cases o' with
      | own ok xs => cases h2
      | box ty' cs' => cases h2; exact purge_mentL cs'
    have plook : look (st.tmps.map fun p => (p.1, purgeV rid p.2)) = fun d => purgeV rid (look st.tmps d) := funext fun d => look_map (purgeV rid) (by simp only [purgeV]) st.tmps d
    cases draw with
    | false =>
      refine wp_region ?_
      rw [← lists_fst ops]
      cases hmk : ops.any (makes ·.op) with
      | false =>
        have hp : purge false rid ops st = st := by unfold purge; rw [hmk]; rfl
        rw [hp] at hx
        refine seq_sound V (rid := rid) (n := n) (b := _) false (fun _ i o ho => ?_) hsz hdst' hQ _ 0 st Z ψ a w (lists_all ops) hx ⟨k, t, fun d => ?_, fun i ty cs hb => ?_⟩
        · have := Array.any_eq_false'.1 hmk o (Array.mem_of_getElem? ho)
          simpa using this
        · exact (Ment.top _).imp fun id _ h => by cases h
        · exact (MentL.top _).imp fun id _ h => by cases h
      | true =>
        have hp : purge false rid ops st = { tmps := st.tmps.map fun p => (p.1, purgeV rid p.2), heap := pheap rid st.heap } := by unfold purge; rw [hmk]; rfl
        rw [hp] at hx
        refine seq_sound V (rid := rid) (n := n) (b := _) true (fun h => by cases h) hsz hdst' hQ _ 0 _ Z ψ a w (lists_all ops) hx ⟨pk, by rw [plook]; exact pt, fun d => ?_, fun i ty cs hb => ?_⟩
        · rw [plook]
          exact (purge_ment _).imp fun id h1 _ h2 => (h1 h2).elim
        · exact (pm i ty cs hb).imp fun id h1 _ h2 => (h1 h2).elim
    | true =>
      have hp : purge true rid ops st = { tmps := st.tmps.map fun p => (p.1, purgeV rid p.2), heap := pheap rid st.heap } := by unfold purge; rw [Bool.true_or]; rfl
      rw [hp] at hx
      simp only [Bool.not_true, Bool.false_or, Bool.and_eq_true] at hdr
      obtain ⟨hbef, hpair, hnd⟩ := hdr
      refine wp_region_any hm ?_
      obtain ⟨T, H, E, h1, h2, h3, st', h4, h5, h6⟩ := trace (kk := kk) (r := r) (ops.toList.zipIdx.map fun p => (p.2, p.1)) 0 _ (lists_all ops) (by simp) hx
      rw [plook] at h1
      have D : Dr P Eqs Sg F rid n ops b T H E := ⟨hsz, hbef, hpair, hdst', hnd, fun k o ho => h3 k o (Nat.zero_le _) ho, fun id hid => by
        rw [h2] at hid
        obtain ⟨o, ho⟩ := Option.ne_none_iff_exists'.1 hid
        exact (pheap_some ho).1⟩
      have hnone : ∀ k, ¬ ((Array.replicate ops.size false).getD k false = true) := fun k hk => by
        rw [Array.getD_eq_getD_getElem?, Array.getElem?_replicate] at hk
        split at hk <;> simp at hk
      rw [show max 0 ops.size = ops.size by omega] at h5 h6
      have w2 : ({ w with drawn := w.drawn + 1 } : World).heap = w.heap := rfl
      refine D.any V (Z0 := Z0) (w0 := w0) (O := O) (ψ0 := ψ0) (fun Z ψ a w j => hQ st' Z ψ a w h4 (by rw [h6]; exact j.ok) (by rw [h5, h6]; exact j.tr)) ops.size _ (T 0) (H 0) a _ Z ψ (by simp) ?_ ?_ ?_
      · unfold unlisted
        rw [List.filter_eq_self.2, List.length_range]
        intro k _
        have := hnone k
        simpa using this
      · refine ⟨fun i hi => (hnone i hi).elim, fun i j hi => (hnone i hi).elim, ?_, fun j o d hj => (hnone j hj).elim, fun d _ => rfl⟩
        obtain ⟨q, hq1, hq2, hq3⟩ := next_q E (fun k => (Array.replicate ops.size false).getD k false = true) ops.size
        refine ⟨q, hq1, hq2, hq3, fun id => ⟨fun hin => ?_, fun hin => ?_⟩⟩
        · symm
          refine D.between q (Nat.zero_le _) hq1 (fun k _ hk hw => (hnone k (hq2 k hk hw)).elim) id fun k _ hk _ ho => ?_
          have := hin (ho.parts (by omega)).1
          exact hnone _ this
        · rw [h2]
          apply Classical.not_not.1
          intro hne
          obtain ⟨o, ho⟩ := Option.ne_none_iff_exists'.1 hne
          exact hin fun hr => absurd hr (pheap_some ho).1
      · rw [h1, h2]
        refine ⟨pk.heapEq w2 rfl rfl rfl, pt.heapEq w2, fun d => (purge_ment _).imp fun id h3 h4 => (h3 h4).elim, fun i ty cs hb => (pm i ty cs hb).imp fun id h3 h4 => (h3 h4).elim⟩
  · cases hx
end Go.Vs
