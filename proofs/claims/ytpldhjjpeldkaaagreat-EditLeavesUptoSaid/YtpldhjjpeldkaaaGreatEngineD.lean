/- The value semantics is sound for whole functions; the signatures of the program. -/
import Derived.Test.YtpldhjjpeldkaaaGreatEngineC
import Derived.Scope
import Derived.Test.YtpldhjjpeldkaaaGreatProg
import Derived.KernelRfl

set_option linter.unusedSimpArgs false
set_option linter.unusedVariables false
namespace Go.Vs
variable {P : Program} {Eqs : TypeId → Option K} {Sg : FuncId → Option Sig} {F : (f : FuncId) → (g : Sig) → g.A → Option g.B} {R : Type}
variable {Z Z' Z0 : Nat → Prop} {ψ ψ' ψ0 : Nat → Value} {h h' : Hp} {w w' w0 : World} {B0 : Nat} {O N : Nat → Prop}

def rowEnts (st : St) : (l : List (Nat × Nat × OK)) → LTs (l.map (·.2.2)) → List Ent
  | [], _ => []
  | (s, id, ok) :: r, x => (id, (srcs (look st.tmps s)).head?, .own ok x.1) :: rowEnts st r x.2
theorem rowEnts_heap (st : St) : ∀ (l : List (Nat × Nat × OK)) (x : LTs (l.map (·.2.2))), entH (rowEnts st l x) = headRows l x
  | [], _ => rfl
  | (s, id, ok) :: r, x => by simp only [rowEnts, headRows]; rw [← rowEnts_heap st r x.2]; rfl
theorem rowEnts_names (st : St) : ∀ (l : List (Nat × Nat × OK)) (x : LTs (l.map (·.2.2))), (rowEnts st l x).map (·.1) = l.map (·.2.1)
  | [], _ => rfl
  | (s, id, ok) :: r, x => by simp only [rowEnts, List.map_cons]; rw [rowEnts_names st r x.2]
theorem rowEnts_src (st : St) : ∀ (l : List (Nat × Nat × OK)) (x : LTs (l.map (·.2.2))), (rowEnts st l x).filterMap (·.2.1) = l.flatMap fun p => srcs (look st.tmps p.1)
  | [], _ => rfl
  | (s, id, ok) :: r, x => by
    simp only [rowEnts, List.flatMap_cons]
    rw [filterMap_cons_toList, rowEnts_src st r x.2]
    simp only []
    rw [srcs_head]
theorem rowsAt_cons {st : St} {s id : Nat} {ok : OK} {r : List (Nat × Nat × OK)} {x : LTs (((s, id, ok) :: r).map (·.2.2))} (hd : rowsAt st ((s, id, ok) :: r) = some x) : ownAt st.heap ok (look st.tmps s) = some x.1 ∧ rowsAt st r = some x.2 := by
  have e : rowsAt st ((s, id, ok) :: r) = (match ownAt st.heap ok (look st.tmps s), rowsAt st r with
    | some x, some y => some ((x, y) : ok.T × LTs (r.map (·.2.2)))
    | _, _ => none) := rfl
  rw [e] at hd
  clear e
  generalize ownAt st.heap ok (look st.tmps s) = o1 at hd ⊢
  generalize rowsAt st r = o2 at hd ⊢
  cases o1 with
  | none => cases hd
  | some x1 =>
    cases o2 with
    | none => cases hd
    | some y1 => have := Option.some.inj hd; subst this; exact ⟨rfl, rfl⟩
theorem rowEnts_ok {hd : Hp} {st : St} : ∀ (l : List (Nat × Nat × OK)) (x : LTs (l.map (·.2.2))), rowsAt st l = some x → (∀ s ∈ (l.flatMap fun p => srcs (look st.tmps p.1)), hd s = st.heap.get s) →
    ∀ e ∈ rowEnts st l x, EntOk Z ψ hd w h' ψ' e
  | [], _, _, _, e, he => by simp [rowEnts] at he
  | (s, id, ok) :: r, x, hx, hk, e, he => by
    obtain ⟨h1, h2⟩ := rowsAt_cons hx
    simp only [List.flatMap_cons] at hk
    simp only [rowEnts] at he
    rcases List.mem_cons.1 he with rfl | he
    · exact own_ent h1 fun s hs => hk s (List.mem_append_left _ hs)
    · exact rowEnts_ok r x.2 h2 (fun s hs => hk s (List.mem_append_right _ hs)) e he

theorem valsAt_cons {st : St} {s : Nat} {k : K} {r : List (Nat × K)} {x : VTs (((s, k) :: r).map (·.2))} (hd : valsAt st ((s, k) :: r) = some x) : ofOne k st.heap (look st.tmps s) = some x.1 ∧ valsAt st r = some x.2 := by
  have e : valsAt st ((s, k) :: r) = (match ofOne k st.heap (look st.tmps s), valsAt st r with
    | some x, some y => some ((x, y) : k.T × VTs (r.map (·.2)))
    | _, _ => none) := rfl
  rw [e] at hd
  clear e
  generalize ofOne k st.heap (look st.tmps s) = o1 at hd ⊢
  generalize valsAt st r = o2 at hd ⊢
  cases o1 with
  | none => cases hd
  | some x1 =>
    cases o2 with
    | none => cases hd
    | some y1 => have := Option.some.inj hd; subst this; exact ⟨rfl, rfl⟩

theorem look_rep {T : List (Nat × AV)} {n : Nat} {a : Act} (hall : ∀ p ∈ T, Rep Z ψ h w p.2 (a.tmps.getD p.1 undef)) (hs : a.tmps.size = n) (hd : a.defers = []) : TRep Z ψ h w n (look T) a := by
  refine ⟨fun d => ?_, hs, hd⟩
  induction T with
  | nil => simp only [look, Rep]
  | cons p r ih =>
    obtain ⟨i, v⟩ := p
    simp only [look]
    split
    · rename_i e; subst e; exact hall _ List.mem_cons_self
    · exact ih fun p hp => hall p (List.mem_cons_of_mem _ hp)

section
variable {st : St} {n : Nat} {a : Act}
theorem headVals_rep (g : Good Z ψ st.heap.get w B0 O) (t : TRep Z ψ st.heap.get w n (look st.tmps) a) (hz : ∀ b, Z b → Z' b) : ∀ (l : List (Nat × K)) (x : VTs (l.map (·.2))), valsAt st l = some x →
    (∀ id b, AV.osl id ∈ (l.flatMap fun p => (look st.tmps p.1).cells) → st.heap.get id ≠ none → ob (ψ id) = some b → Z' b) → ∀ p ∈ headVals l x, Rep Z' ψ' h' w p.2 (a.tmps.getD p.1 undef)
  | [], _, _, _, p, hp => by simp [headVals] at hp
  | (s, k) :: r, x, hx, hf, p, hp => by
    obtain ⟨h1, h2⟩ := valsAt_cons hx
    simp only [List.flatMap_cons] at hf
    simp only [headVals] at hp
    rcases List.mem_cons.1 hp with rfl | hp
    · exact ofOne_rep g hz (fun id b hid => hf id b (List.mem_append_left _ hid)) h1 (t.rep s)
    · exact headVals_rep g t hz r x.2 h2 (fun id b hid => hf id b (List.mem_append_right _ hid)) p hp

theorem headBoxes_rep (t : TRep Z ψ st.heap.get w n (look st.tmps) a) : ∀ (l : List (Src × Nat × BK)) (ids : List Nat), srcIds st l = some ids → (∀ i ∈ ids, st.heap.get i ≠ none) →
    (∀ p ∈ ids.zip (l.map (·.2.1)), h' p.2 ≠ none → ψ' p.2 = ψ p.1) → ∀ p ∈ headBoxes l, Rep Z' ψ' h' w p.2 (a.tmps.getD p.1 undef)
  | [], _, _, _, _, p, hp => by simp [headBoxes] at hp
  | (src, id', b) :: r, ids, hx, hi, hψ, p, hp => by
    simp only [srcIds] at hx
    split at hx
    · rename_i i is h1 h2
      cases hx
      simp only [List.map_cons, List.zip_cons_cons] at hψ
      have ih := headBoxes_rep t r is h2 (fun j hj => hi j (List.mem_cons_of_mem _ hj)) (fun p hp => hψ p (List.mem_cons_of_mem _ hp)) p
      cases src with
      | slot s =>
        simp only [headBoxes] at hp
        rcases List.mem_cons.1 hp with rfl | hp
        · simp only [srcId] at h1
          obtain ⟨sz, h3⟩ := refId_spec h1
          have h4 := t.rep s
          rw [h3] at h4
          exact ref_rep h4 (hi i List.mem_cons_self) (hψ (i, id') List.mem_cons_self)
        · exact ih hp
      | cap s j => exact ih (by simpa only [headBoxes] using hp)
    · cases hx

theorem refs_rep {hh : Heap} {ids : List (Nat × Nat)} (hi : ∀ p ∈ ids, hh.get p.1 ≠ none) (hψ : ∀ p ∈ ids, h' p.2 ≠ none → ψ' p.2 = ψ p.1) : ∀ (cap : List AV) (is caps : List Nat) (vs : List Value), refIds cap = some is →
    is.map (fun i => (ids.find? (·.1 == i)).map (·.2)) = caps.map some → RepL Z ψ hh.get w cap vs → RepL Z' ψ' h' w (caps.map fun i => .ref i 0 0 0) vs
  | [], is, caps, vs, h1, h2, hr => by
    simp only [refIds] at h1
    cases h1
    cases caps with
    | nil => simpa only [List.map_nil, RepL] using hr
    | cons c r => simp at h2
  | v :: cap, is, caps, vs, h1, h2, hr => by
    simp only [refIds] at h1
    split at h1
    · rename_i i is' h3 h4
      cases h1
      cases caps with
      | nil => simp at h2
      | cons c r =>
        simp only [List.map_cons, List.cons.injEq] at h2
        obtain ⟨h5, h6⟩ := h2
        simp only [List.map_cons, RepL] at hr ⊢
        obtain ⟨u, us, rfl, h7, h8⟩ := hr
        obtain ⟨sz, rfl⟩ := refId_spec h3
        cases hf : ids.find? (·.1 == i) with
        | none => rw [hf] at h5; cases h5
        | some p =>
          rw [hf] at h5
          have hm := List.mem_of_find?_eq_some hf
          have he := List.find?_some hf
          simp only [Option.map_some, Option.some.injEq] at h5
          have he' : p.1 = i := by simpa using he
          refine ⟨u, us, rfl, ref_rep h7 (by rw [← he']; exact hi p hm) (fun hn => ?_), refs_rep hi hψ cap is' r us h4 h6 h8⟩
          rw [← h5, ← he']; exact hψ p hm (by rw [h5]; exact hn)
    · cases h1
theorem headFns_rep (t : TRep Z ψ st.heap.get w n (look st.tmps) a) {ids : List (Nat × Nat)} (hi : ∀ p ∈ ids, st.heap.get p.1 ≠ none) (hψ : ∀ p ∈ ids, h' p.2 ≠ none → ψ' p.2 = ψ p.1) : ∀ (l : List (Nat × FuncId × List Nat)), fnsOk st ids l = true →
    ∀ p ∈ headFns l, Rep Z' ψ' h' w p.2 (a.tmps.getD p.1 undef)
  | [], _, p, hp => by simp [headFns] at hp
  | (s, f, caps) :: r, hx, p, hp => by
    simp only [fnsOk, Bool.and_eq_true] at hx
    simp only [headFns, List.map_cons] at hp
    rcases List.mem_cons.1 hp with rfl | hp
    · have h1 := hx.1
      split at h1
      · rename_i f' cap hl
        simp only [Bool.and_eq_true, decide_eq_true_eq] at h1
        obtain ⟨rfl, h2⟩ := h1
        split at h2
        · rename_i is hri
          have h4 := t.rep s
          rw [hl] at h4
          simp only [Rep] at h4 ⊢
          obtain ⟨vs, h5, h6⟩ := h4
          exact ⟨vs, h5, refs_rep hi hψ cap is caps _ hri (of_decide_eq_true h2) h6⟩
        · cases h2
      · cases h1
    · exact headFns_rep t hi hψ r hx.2 p hp

theorem headRows_rep (t : TRep Z ψ st.heap.get w n (look st.tmps) a) : ∀ (l : List (Nat × Nat × OK)) (x : LTs (l.map (·.2.2))), rowsAt st l = some x → (∀ e ∈ rowEnts st l x, h' e.1 ≠ none → ψ' e.1 = srcVal ψ e.2.1) →
    ∀ p ∈ (l.map fun p => (p.1, AV.osl p.2.1)), Rep Z' ψ' h' w p.2 (a.tmps.getD p.1 undef)
  | [], _, _, _, p, hp => by simp at hp
  | (s, id, ok) :: r, x, hx, hψ, p, hp => by
    obtain ⟨h1, h2⟩ := rowsAt_cons hx
    simp only [rowEnts] at hψ
    simp only [List.map_cons] at hp
    rcases List.mem_cons.1 hp with rfl | hp
    · exact own_rep h1 (t.rep s) (hψ _ List.mem_cons_self)
    · exact headRows_rep t r x.2 h2 (fun e he => hψ e (List.mem_cons_of_mem _ he)) p hp
end

theorem rowKeeps_ent {st : St} {m : Nat} : ∀ (l : List (Nat × Nat × OK)) (x : LTs (l.map (·.2.2))), rowKeeps st m l = true → ∃ o, (m, some m, o) ∈ rowEnts st l x
  | [], _, h => by cases h
  | (s, id, ok) :: r, x, h => by
    simp only [rowKeeps, Bool.or_eq_true, Bool.and_eq_true, beq_iff_eq] at h
    rcases h with ⟨rfl, h⟩ | h
    · split at h
      · rename_i i hl
        have hi : i = id := by simpa using h
        subst hi
        exact ⟨_, by simp only [rowEnts, hl, srcs, List.head?_cons]; exact List.mem_cons_self⟩
      · cases h
    · obtain ⟨o, ho⟩ := rowKeeps_ent r x.2 h
      exact ⟨o, List.mem_cons_of_mem _ ho⟩
theorem rowKeeps_heap {st : St} {m : Nat} : ∀ (l : List (Nat × Nat × OK)) (x : LTs (l.map (·.2.2))), rowsAt st l = some x → rowKeeps st m l = true → st.heap.get m ≠ none
  | [], _, _, h => by cases h
  | (s, id, ok) :: r, x, hx, h => by
    obtain ⟨h1, h2⟩ := rowsAt_cons hx
    simp only [rowKeeps, Bool.or_eq_true, Bool.and_eq_true, beq_iff_eq] at h
    rcases h with ⟨rfl, h⟩ | h
    · split at h
      · rename_i i hl
        have hi : i = id := by simpa using h
        subst hi
        rw [hl] at h1
        simp only [ownAt] at h1
        split at h1
        · rename_i hg; rw [hg]; simp
        · cases h1
      · cases h
    · exact rowKeeps_heap r x.2 h2 h

theorem zof_own {frz : List AV} {hh : Heap} {b : Nat} (hb : Zof Z ψ hh.get frz b) : Z b ∨ Own ψ hh.get b := hb.imp (fun h => h) fun ⟨i, _, h2, h3⟩ => ⟨i, h2, h3⟩

/-- At a loop's head: the same, under the head's names. -/
theorem head_sound {sh : Shape} {st : St} {x : sh.T} {n : Nat} {a : Act} (hx : atHead sh st = some x) (k : Ok Z0 w0 O ψ0 Z ψ st.heap.get w) (t : TRep Z ψ st.heap.get w n (look st.tmps) a) :
    ∃ Z' ψ', Ok Z0 w0 O ψ0 Z' ψ' (fromHead sh x).heap.get w ∧ TRep Z' ψ' (fromHead sh x).heap.get w n (look (fromHead sh x).tmps) a := by
  unfold atHead at hx
  split at hx
  · cases hx
  rename_i ids hids
  split at hx
  · rename_i xv xb xr hv hb hr hchk
    cases hx
    simp only [Bool.and_eq_true] at hchk
    obtain ⟨hkept, hnames, hfix, hfns⟩ := hchk
    obtain ⟨hlen, hsome⟩ := boxesIn_some _ _ _ hb
    have hl' : (sh.boxes.map (·.2.1)).length = sh.bs.length := by simp [Shape.bs]
    let L : List Ent := boxEnts sh.bs st.heap ids (sh.boxes.map (·.2.1)) 9000 xb ++ rowEnts st sh.rows xr
    have eH : entH L = (fromHead sh (xv, xb, xr)).heap := by
      show entH (_ ++ _) = _
      rw [entH_append, boxEnts_heap _ _ _ _ _ _ hb hl', rowEnts_heap]; rfl
    have eN : L.map (·.1) = headNames sh := by
      show (_ ++ _ : List Ent).map _ = _
      rw [List.map_append, boxEnts_names _ _ _ _ _ _ hb hl', rowEnts_names]; rfl
    have eS : L.filterMap (·.2.1) = headKept st sh ids := by
      show (_ ++ _ : List Ent).filterMap _ = _
      rw [List.filterMap_append, boxEnts_src _ _ _ _ _ _ hb hl', rowEnts_src]; rfl
    have hn : nodupB (L.map (·.1)) = true := by rw [eN]; exact hnames
    have hψ := ents_ψ (ψ := ψ) hn
    have hz : ∀ b, Z b → Zof Z ψ st.heap.get (headFrz st sh ids) b := fun b hb => .inl hb
    have hkd := (kept_spec hkept).2 st.heap
    have g' : Good (Zof Z ψ st.heap.get (headFrz st sh ids)) (entψ ψ L) (entH L).get w w0.heap.size O := by
      refine move_good k.good hkept hn eS fun e he => ?_
      rcases List.mem_append.1 he with he | he
      · exact boxEnts_ok k.good hz sh.bs ids _ 9000 xb hb (fun id b hid h1 h2 => .inr ⟨id, List.mem_append_right _ hid, h1, h2⟩) (fun s hs => hkd s (List.mem_append_left _ hs)) (fun e he => hψ e (List.mem_append_left _ he)) e he
      · exact rowEnts_ok sh.rows xr hr (fun s hs => hkd s (List.mem_append_right _ hs)) e he
    have hzip : ∀ p ∈ ids.zip (sh.boxes.map (·.2.1)), (entH L).get p.2 ≠ none → entψ ψ L p.2 = ψ p.1 := fun p hp hne => by
      obtain ⟨o, ho⟩ := boxEnts_zip sh.bs ids (sh.boxes.map (·.2.1)) 9000 xb (hh := st.heap) hlen p hp
      exact hψ (p.2, some p.1, o) (List.mem_append_left _ ho) hne
    have hzs : ∀ p ∈ ids.zip (sh.boxes.map (·.2.1)), st.heap.get p.1 ≠ none := fun p hp => hsome _ (List.of_mem_zip hp).1
    refine ⟨Zof Z ψ st.heap.get (headFrz st sh ids), entψ ψ L, ?_, ?_⟩
    · rw [← eH]
      refine ⟨g', fun b hb => .inl (k.zsub b hb), fun b hb => ?_, k.os, k.tape, k.output, k.size, k.block, fun i hi hne => ?_⟩
      · rcases zof_own hb with h1 | ⟨id, h1, h2⟩
        · exact k.zfrom b h1
        · exact .inr (k.good.live id b h1 h2).2.symm
      · obtain ⟨o, ho⟩ := Option.ne_none_iff_exists'.1 hne
        obtain ⟨s, hm⟩ := entH_mem ho
        have hmem : i ∈ headNames sh := by rw [← eN]; exact List.mem_map.2 ⟨_, hm, rfl⟩
        have h1 := List.all_eq_true.1 hfix i hmem
        simp only [Bool.or_eq_true, decide_eq_true_eq] at h1
        rcases h1 with (h1 | h1) | h1
        · omega
        · obtain ⟨p, hp, he⟩ := List.any_eq_true.1 h1
          simp only [Bool.and_eq_true, beq_iff_eq] at he
          have h2 := hzip p hp (by rw [he.2]; exact hne)
          rw [he.1, he.2] at h2
          rw [h2]
          exact k.fix i hi (by have := hzs p hp; rwa [he.1] at this)
        · obtain ⟨o', ho'⟩ := rowKeeps_ent sh.rows xr h1
          have h2 : entψ ψ L i = ψ i := hψ (i, some i, o') (List.mem_append_right _ ho') hne
          rw [h2]
          exact k.fix i hi (rowKeeps_heap sh.rows xr hr h1)
    · rw [← eH]
      refine look_rep (fun p hp => ?_) t.size t.defers
      simp only [fromHead] at hp
      rcases List.mem_append.1 hp with hp | hp
      · exact headVals_rep k.good t hz sh.vals xv hv (fun id b hid h1 h2 => .inr ⟨id, List.mem_append_left _ hid, h1, h2⟩) p hp
      · rcases List.mem_append.1 hp with hp | hp
        · exact headBoxes_rep t sh.boxes ids hids hsome hzip p hp
        · rcases List.mem_append.1 hp with hp | hp
          · exact headFns_rep t hzs hzip sh.fns hfns p hp
          · exact headRows_rep t sh.rows xr hr (fun e he => hψ e (List.mem_append_right _ he)) p hp
  · cases hx
end Go.Vs

set_option linter.unusedSimpArgs false
set_option linter.unusedVariables false
namespace Go.Vs
variable {P : Program} {Eqs : TypeId → Option K} {Sg : FuncId → Option Sig} {F : (f : FuncId) → (g : Sig) → g.A → Option g.B} {R : Type}
variable {Z Z' Z0 : Nat → Prop} {ψ ψ' ψ0 : Nat → Value} {h h' : Hp} {w w' w0 : World} {B0 : Nat} {O N : Nat → Prop}

/-- The frame comes to its return, with what Post says. -/
def Reach (P : Program) (b : Frame) (cs : List Frame) (Post : Act → World → Prop) (m : Machine) : Prop := ∃ a' w' todo, Post a' w' ∧ Steps P m (lone { b.at a' todo with mode := .returning } cs w')
theorem Reach.head {b : Frame} {cs : List Frame} {Post : Act → World → Prop} {m m' : Machine} (h : step P m = .next m') (r : Reach P b cs Post m') : Reach P b cs Post m := by
  obtain ⟨a, w, todo, h1, h2⟩ := r
  exact ⟨a, w, todo, h1, .head h h2⟩
theorem Reach.steps {b : Frame} {cs : List Frame} {Post : Act → World → Prop} {m m' : Machine} (h : Steps P m m') (r : Reach P b cs Post m') : Reach P b cs Post m := by
  obtain ⟨a, w, todo, h1, h2⟩ := r
  exact ⟨a, w, todo, h1, h.trans h2⟩

theorem items_sound (V : Env P Eqs Sg F) (hm : P.follows .mixedOrders = true) {n : Nat} {ann : Nat → Option Shape} {J : (sh : Shape) → List Item → sh.T → Option R} {ret : St → Option R} {r : R} {b : Frame} {cs : List Frame} {Post : Act → World → Prop}
    (hJ : ∀ sh c k x Z ψ a w, J sh (.inLoop c :: k) x = some r → Ok Z0 w0 O ψ0 Z ψ (fromHead sh x).heap.get w → TRep Z ψ (fromHead sh x).heap.get w n (look (fromHead sh x).tmps) a → Reach P b cs Post (lone (b.at a (.code c :: .inLoop c :: k)) cs w))
    (hret : ∀ st Z ψ a w, ret st = some r → Ok Z0 w0 O ψ0 Z ψ st.heap.get w → TRep Z ψ st.heap.get w n (look st.tmps) a → Post a w) :
    ∀ (fu : Nat) (items : List Item) (st : St) (Z : Nat → Prop) (ψ : Nat → Value) (a : Act) (w : World), execItems P Eqs Sg F n ann J ret fu items st = some r → Ok Z0 w0 O ψ0 Z ψ st.heap.get w → TRep Z ψ st.heap.get w n (look st.tmps) a →
      Reach P b cs Post (lone (b.at a items) cs w)
  | 0, items, st, Z, ψ, a, w, hx, k, t => by
    cases items <;> simp only [execItems] at hx <;> cases hx
  | fu + 1, [], st, Z, ψ, a, w, hx, k, t => ⟨a, w, [], hret st Z ψ a w (by simpa only [execItems] using hx) k t, .one step_end⟩
  | fu + 1, it :: its, st, Z, ψ, a, w, hx, k, t => by
    have ih := items_sound V hm (ann := ann) hJ hret fu
    have loop : ∀ c, (match ann (loopKey c) with
        | none => none
        | some sh => match atHead sh st with
          | some x => J sh (.inLoop c :: its) x
          | none => none) = some r → Reach P b cs Post (lone (b.at a (.code c :: .inLoop c :: its)) cs w) := fun c hx => by
      split at hx
      · cases hx
      · rename_i sh hsh
        split at hx
        · rename_i x hxx
          obtain ⟨Z', ψ', k', t'⟩ := head_sound hxx k t
          exact hJ sh c its x Z' ψ' a w hx k' t'
        · cases hx
    cases it with
    | inBlock id => exact .head step_inBlock (ih its st Z ψ a w (by simpa only [execItems] using hx) k t)
    | inScope c => exact .head step_inScope (ih its st Z ψ a w (by simpa only [execItems] using hx) k t)
    | inLoop c => exact .head step_inLoop (loop c (by simp only [execItems] at hx; exact hx))
    | code c =>
      cases c with
      | skip => exact .head step_skip (ih its st Z ψ a w (by simpa only [execItems] using hx) k t)
      | label l => exact .head step_label (ih its st Z ψ a w (by simpa only [execItems] using hx) k t)
      | seq x y => exact .head step_seq (ih _ st Z ψ a w (by simpa only [execItems] using hx) k t)
      | cond c x y =>
        simp only [execItems] at hx
        split at hx
        · rename_i tt ht
          have h1 := eval_rep t c
          rw [ht] at h1
          simp only [Rep] at h1
          cases tt with
          | true => exact .head (step_cond h1) (ih _ st Z ψ a w hx k t)
          | false => exact .head (step_cond h1) (ih _ st Z ψ a w hx k t)
        · cases hx
      | scope c => exact .head step_scope (ih _ st Z ψ a w (by simpa only [execItems] using hx) k t)
      | block id c => exact .head step_block (ih _ st Z ψ a w (by simpa only [execItems] using hx) k t)
      | loop c =>
        simp only [execItems] at hx
        cases fu with
        | zero => simp only [execItems] at hx; cases hx
        | succ fu => exact .head step_loop (loop c (by simp only [execItems] at hx; exact hx))
      | exit id =>
        simp only [execItems] at hx
        split at hx
        · rename_i k' hk; exact .head (step_exit hk) (ih _ st Z ψ a w hx k t)
        · cases hx
      | ret => exact ⟨a, w, _, hret st Z ψ a w (by simpa only [execItems] using hx) k t, .one step_ret⟩
      | region id ops draw =>
        simp only [execItems] at hx
        have hw := region_sound V hm (Q := fun e a w => e = .normal ∧ ∃ st' Z ψ, execItems P Eqs Sg F n ann J ret fu its st' = some r ∧ Ok Z0 w0 O ψ0 Z ψ st'.heap.get w ∧ TRep Z ψ st'.heap.get w n (look st'.tmps) a) hx k t (fun st' Z ψ a w h1 h2 h3 => ⟨rfl, st', Z, ψ, h1, h2, h3⟩)
        obtain ⟨e, a', w', ⟨rfl, st', Z', ψ', h1, h2, h3⟩, harr⟩ := hw b its cs
        exact .steps harr (ih its st' Z' ψ' a' w' h1 h2 h3)
      | _ => simp only [execItems] at hx; cases hx
    | _ => simp only [execItems] at hx; cases hx

/-! ### Results -/
theorem results_rep {hh : Heap} {n : Nat} {s : List (Nat × AV)} {a : Act} (g : Good Z ψ hh.get w B0 O) (t : TRep Z ψ hh.get w n (look s) a) : ∀ (l : List ResultVar) (acc : Array Value) (vs : List AV), resOf P hh s l = some vs →
    ∃ us, (l.foldlM (fun (bs : Array Value) r => do let y ← (match r with | .tmp t => pure (a.tmps.getD t undef) | .cell p ty => do loadVar ty (← asAddr (a.tmps.getD p undef)) : Sem Value); pure (bs.push y)) acc : Sem (Array Value)).run P w = .ok (acc ++ us.toArray) w ∧ RepL Z ψ hh.get w vs us
  | [], acc, vs, hx => by
    simp only [resOf] at hx
    cases hx
    exact ⟨[], by simp, by simp only [RepL]⟩
  | .tmp d :: l, acc, vs, hx => by
    simp only [resOf] at hx
    split at hx
    · rename_i vs' h1
      cases hx
      obtain ⟨us, h2, h3⟩ := results_rep g t l (acc.push (a.tmps.getD d undef)) vs' h1
      refine ⟨a.tmps.getD d undef :: us, ?_, by simp only [RepL]; exact ⟨_, _, rfl, t.rep d, h3⟩⟩
      simp only [List.foldlM_cons, Sem.run_bind, Sem.run_pure, Result.andThen_ok]
      rw [h2]; simp
    · cases hx
  | .cell d ty :: l, acc, vs, hx => by
    simp only [resOf] at hx
    split at hx
    · rename_i id sz off hd
      split at hx
      · rename_i bt cs hg
        split at hx
        · rename_i v vs' hv h1
          cases hx
          have h4 := t.rep d
          rw [hd] at h4
          simp only [Rep] at h4
          obtain ⟨ad, h5, h6⟩ := h4
          obtain ⟨gg, ws, e1, e2, e3, e4⟩ := g.box id bt cs hg
          have h7 := h6 (by rw [hg]; simp)
          rw [e1] at h7
          simp only [blk, Nat.zero_mul, Nat.zero_add] at h7
          subst h7
          obtain ⟨V, h8, h9⟩ := load_cells (a := ⟨gg, off, none⟩) (e3.drop off) (fun j u hu => by
            rw [addr_plain]; simp only [World.cell?, e2]; rw [List.getElem?_drop] at hu; simpa using hu) hv
          have h10 : (loadVar ty ⟨gg, off, none⟩).run P w = .ok V w := by
            have := h8
            simpa [Instr.loadAt, Instr.sureAddr] using this
          obtain ⟨us, h2, h3⟩ := results_rep g t l (acc.push V) vs' h1
          refine ⟨V :: us, ?_, by simp only [RepL]; exact ⟨_, _, rfl, h9, h3⟩⟩
          have h11 : (asAddr (a.tmps.getD d undef)).run P w = .ok ⟨gg, off, none⟩ w := by rw [h5]; rfl
          simp only [List.foldlM_cons, Sem.run_bind, h11, Sem.run_pure, Result.andThen_ok, h10]
          rw [h2]; simp
        · cases hx
      · cases hx
    · cases hx

theorem results_run {fn : Func} {hh : Heap} {n : Nat} {s : List (Nat × AV)} {a : Act} {vs : List AV} (g : Good Z ψ hh.get w B0 O) (t : TRep Z ψ hh.get w n (look s) a) (hx : resOf P hh s fn.results.toList = some vs) :
    ∃ us v, (results fn a.tmps).run P w = .ok v w ∧ RepL Z ψ hh.get w vs us ∧ v = (if us.length = 1 then us.headD undef else .tuple us.toArray) := by
  obtain ⟨us, h1, h2⟩ := results_rep (P := P) g t fn.results.toList #[] vs hx
  refine ⟨us, _, ?_, h2, rfl⟩
  have h3 : (fn.results.mapM fun r => (match r with | .tmp t => pure (a.tmps.getD t undef) | .cell p ty => do loadVar ty (← asAddr (a.tmps.getD p undef)) : Sem Value)).run P w = .ok us.toArray w := by
    rw [Array.mapM_eq_foldlM, ← Array.foldlM_toList]
    simpa using h1
  have h4 : results fn a.tmps = (do
      let vs ← fn.results.mapM fun r => (match r with | .tmp t => pure (a.tmps.getD t undef) | .cell p ty => do loadVar ty (← asAddr (a.tmps.getD p undef)) : Sem Value)
      pure (if h : vs.size = 1 then vs[0] else .tuple vs)) := rfl
  rw [h4, Sem.run_bind, h3, Result.andThen_ok, Sem.run_pure]
  congr 1
  by_cases h5 : us.length = 1
  · obtain ⟨u, rfl⟩ := List.length_eq_one_iff.1 h5
    simp
  · rw [dif_neg (by simpa using h5), if_neg h5]
end Go.Vs

set_option linter.unusedSimpArgs false
set_option linter.unusedVariables false
namespace Go.Vs
variable {P : Program} {Eqs : TypeId → Option K} {Sg : FuncId → Option Sig} {F : (f : FuncId) → (g : Sig) → g.A → Option g.B} {R : Type}
variable {Z Z' Z0 : Nat → Prop} {ψ ψ' ψ0 : Nat → Value} {h h' : Hp} {w w' w0 : World} {B0 : Nat} {O N : Nat → Prop}

/-! ### The entry -/
theorem entry_reps : ∀ (ps : List PK) (ids : List Nat) (s : Nat) (x : VTs (valsOf ps)) (us : List Value), RepL Z ψ h w ((entryVals ps ids s x).map (·.2)) us → us.length = ps.length ∧ ∀ p ∈ entryVals ps ids s x, ∃ j u, p.1 = s + j ∧ us[j]? = some u ∧ Rep Z ψ h w p.2 u
  | [], ids, s, x, us, hr => by
    simp only [entryVals, List.map_nil, RepL] at hr
    subst hr
    exact ⟨rfl, fun p hp => by simp [entryVals] at hp⟩
  | .val k :: ps, ids, s, x, us, hr => by
    simp only [entryVals, List.map_cons, RepL] at hr
    obtain ⟨u, us', rfl, h1, h2⟩ := hr
    obtain ⟨h3, h4⟩ := entry_reps ps ids (s + 1) x.2 us' h2
    refine ⟨by simp [h3], fun p hp => ?_⟩
    simp only [entryVals] at hp
    rcases List.mem_cons.1 hp with rfl | hp
    · exact ⟨0, u, rfl, rfl, h1⟩
    · obtain ⟨j, u', h5, h6, h7⟩ := h4 p hp
      exact ⟨j + 1, u', by omega, by simpa using h6, h7⟩
  | .ref :: ps, i :: ids, s, x, us, hr => by
    simp only [entryVals, List.map_cons, RepL] at hr
    obtain ⟨u, us', rfl, h1, h2⟩ := hr
    obtain ⟨h3, h4⟩ := entry_reps ps ids (s + 1) x us' h2
    refine ⟨by simp [h3], fun p hp => ?_⟩
    simp only [entryVals] at hp
    rcases List.mem_cons.1 hp with rfl | hp
    · exact ⟨0, u, rfl, rfl, h1⟩
    · obtain ⟨j, u', h5, h6, h7⟩ := h4 p hp
      exact ⟨j + 1, u', by omega, by simpa using h6, h7⟩
  | .ref :: ps, [], s, x, us, hr => by
    simp only [entryVals, List.map_cons, RepL] at hr
    obtain ⟨u, us', rfl, h1, h2⟩ := hr
    obtain ⟨h3, h4⟩ := entry_reps ps [] (s + 1) x us' h2
    refine ⟨by simp [h3], fun p hp => ?_⟩
    simp only [entryVals] at hp
    rcases List.mem_cons.1 hp with rfl | hp
    · exact ⟨0, u, rfl, rfl, h1⟩
    · obtain ⟨j, u', h5, h6, h7⟩ := h4 p hp
      exact ⟨j + 1, u', by omega, by simpa using h6, h7⟩
  | .own :: ps, i :: ids, s, x, us, hr => by
    simp only [entryVals, List.map_cons, RepL] at hr
    obtain ⟨u, us', rfl, h1, h2⟩ := hr
    obtain ⟨h3, h4⟩ := entry_reps ps ids (s + 1) x us' h2
    refine ⟨by simp [h3], fun p hp => ?_⟩
    simp only [entryVals] at hp
    rcases List.mem_cons.1 hp with rfl | hp
    · exact ⟨0, u, rfl, rfl, h1⟩
    · obtain ⟨j, u', h5, h6, h7⟩ := h4 p hp
      exact ⟨j + 1, u', by omega, by simpa using h6, h7⟩
  | .own :: ps, [], s, x, us, hr => by
    simp only [entryVals, List.map_cons, RepL] at hr
    obtain ⟨u, us', rfl, h1, h2⟩ := hr
    obtain ⟨h3, h4⟩ := entry_reps ps [] (s + 1) x us' h2
    refine ⟨by simp [h3], fun p hp => ?_⟩
    simp only [entryVals] at hp
    rcases List.mem_cons.1 hp with rfl | hp
    · exact ⟨0, u, rfl, rfl, h1⟩
    · obtain ⟨j, u', h5, h6, h7⟩ := h4 p hp
      exact ⟨j + 1, u', by omega, by simpa using h6, h7⟩
  | .clo f m :: ps, ids, s, x, us, hr => by
    simp only [entryVals, List.map_cons, RepL] at hr
    obtain ⟨u, us', rfl, h1, h2⟩ := hr
    obtain ⟨h3, h4⟩ := entry_reps ps (ids.drop m) (s + 1) x us' h2
    refine ⟨by simp [h3], fun p hp => ?_⟩
    simp only [entryVals] at hp
    rcases List.mem_cons.1 hp with rfl | hp
    · exact ⟨0, u, rfl, rfl, h1⟩
    · obtain ⟨j, u', h5, h6, h7⟩ := h4 p hp
      exact ⟨j + 1, u', by omega, by simpa using h6, h7⟩
  | .agg m :: ps, ids, s, x, us, hr => by
    simp only [entryVals, List.map_cons, RepL] at hr
    obtain ⟨u, us', rfl, h1, h2⟩ := hr
    obtain ⟨h3, h4⟩ := entry_reps ps (ids.drop m) (s + 1) x us' h2
    refine ⟨by simp [h3], fun p hp => ?_⟩
    simp only [entryVals] at hp
    rcases List.mem_cons.1 hp with rfl | hp
    · exact ⟨0, u, rfl, rfl, h1⟩
    · obtain ⟨j, u', h5, h6, h7⟩ := h4 p hp
      exact ⟨j + 1, u', by omega, by simpa using h6, h7⟩

section
variable {An : FuncId → Nat → Option Shape}

theorem runL_sound (V : Env P Eqs Sg F) (hm : P.follows .mixedOrders = true) {f : FuncId} {g : Sig} {fn : Func} {y : g.B} {b : Frame} {cs : List Frame} {Post : Act → World → Prop}
    (hret : ∀ st Z ψ a w, retOf P g fn st = some y → Ok Z0 w0 O ψ0 Z ψ st.heap.get w → TRep Z ψ st.heap.get w fn.ntmps (look st.tmps) a → Post a w) :
    ∀ (n : Nat) (sh : Shape) (c : Code) (k : List Item) (x : sh.T) (Z : Nat → Prop) (ψ : Nat → Value) (a : Act) (w : World), runL P Eqs Sg An F f g fn n sh (.inLoop c :: k) x = some y →
      Ok Z0 w0 O ψ0 Z ψ (fromHead sh x).heap.get w → TRep Z ψ (fromHead sh x).heap.get w fn.ntmps (look (fromHead sh x).tmps) a → Reach P b cs Post (lone (b.at a (.code c :: .inLoop c :: k)) cs w)
  | 0, sh, c, k, x, Z, ψ, a, w, hx, _, _ => by simp only [runL] at hx; cases hx
  | n + 1, sh, c, k, x, Z, ψ, a, w, hx, ko, t => by
    simp only [runL] at hx
    exact items_sound V hm (fun sh c k x Z ψ a w h1 h2 h3 => runL_sound V hm hret n sh c k x Z ψ a w h1 h2 h3) hret fuel _ _ Z ψ a w hx ko t

theorem entryIds_mem {n i : Nat} (h : i ∈ entryIds n) : ∃ j, j < n ∧ i = 1000 + 20 * j := by
  unfold entryIds at h
  obtain ⟨j, h1, rfl⟩ := List.mem_map.1 h
  exact ⟨j, List.mem_range.1 h1, rfl⟩
theorem zip_self {α : Type} {l : List α} {a : α} (h : a ∈ l) : (a, a) ∈ l.zip l := by
  induction l with
  | nil => cases h
  | cons b r ih =>
    simp only [List.zip_cons_cons]
    rcases List.mem_cons.1 h with rfl | h
    · exact List.mem_cons_self
    · exact List.mem_cons_of_mem _ (ih h)

/-- What is run is the contract. -/
theorem con_of_run (V : Env P Eqs Sg F) (hm : P.follows .mixedOrders = true) {f : FuncId} {g : Sig} {n : Nat} {x : g.A} {y : g.B} (hx : runF P Eqs Sg An F f g n x = some y) : Con P f g x y := by
  intro Z ψ0 w cargs hg hr
  unfold runF at hx
  split at hx
  · cases hx
  rename_i fn c hbody
  have hf : P.funcs[f % 1000]? = some fn ∧ fn.body = some c := by
    unfold body at hbody
    obtain ⟨fn', h1, h2⟩ := Option.bind_eq_some_iff.1 hbody
    obtain ⟨c', h3, h4⟩ := Option.map_eq_some_iff.1 h2
    cases h4
    exact ⟨h1, h3⟩
  split at hx
  · rename_i hle
    simp only [Bool.and_eq_true, decide_eq_true_eq] at hle
    obtain ⟨hlen, hentry⟩ := entry_reps g.ps (entryIds g.bs.length) 0 x.1 cargs hr
    intro cs
    let b : Frame := { (default : Frame) with fn := f % 1000, kind := .normal }
    let a0 : Act := { tmps := cargs.toArray ++ Array.replicate (fn.ntmps - cargs.toArray.size) undef, defers := [] }
    have henter : Frame.enter P (f % 1000) cargs.toArray .normal = b.at a0 [.code c] := by
      simp [Frame.enter, Frame.at, hf.1, hf.2, b, a0]
    have ok0 : Ok Z w (Own ψ0 (inH g x)) ψ0 Z ψ0 (entry g x).heap.get w :=
      ⟨hg, fun _ h => h, fun _ h => .inl h, rfl, rfl, rfl, Nat.le_refl _, fun _ _ _ => rfl, fun _ _ _ => rfl⟩
    have tr0 : TRep Z ψ0 (entry g x).heap.get w fn.ntmps (look (entry g x).tmps) a0 := by
      refine look_rep (fun p hp => ?_) (by simp [a0]; omega) rfl
      obtain ⟨j, u, h1, h2, h3⟩ := hentry p hp
      rw [h1]
      have hj : j < cargs.length := (List.getElem?_eq_some_iff.1 h2).1
      have : a0.tmps.getD (0 + j) undef = u := by
        rw [Nat.zero_add, Array.getD_eq_getD_getElem?]
        simp only [a0]
        rw [Array.getElem?_append_left (by simpa using hj)]
        simp [h2]
      rw [this]; exact h3
    have hret : ∀ st Z1 ψ1 a w1, retOf P g fn st = some y → Ok Z w (Own ψ0 (inH g x)) ψ0 Z1 ψ1 st.heap.get w1 → TRep Z1 ψ1 st.heap.get w1 fn.ntmps (look st.tmps) a →
        a.defers = [] ∧ ∃ v, (results fn a.tmps).run P w1 = .ok v w1 ∧ ∃ v' Z' ψ', Ending.returned v = .returned v' ∧ (∀ b, Z b → Z' b) ∧ (∀ b, Z' b → Z b ∨ Own ψ0 (inH g x) b ∨ w.heap.size ≤ b) ∧ Keep ψ0 (inH g x) w w1 ∧
          Good Z' ψ' (outH g y).get w1 w.heap.size (Own ψ0 (inH g x)) ∧ (∀ i ∈ entryIds g.bs.length, ψ' i = ψ0 i) ∧ Rep Z' ψ' (outH g y).get w1 (tupOf (encRes g.rs (entryIds g.bs.length) 2000 3000 y.1)) v' := by
      intro st Z1 ψ1 a w1 hret k t
      refine ⟨t.defers, ?_⟩
      unfold retOf at hret
      split at hret
      · cases hret
      rename_i vs hvs
      split at hret
      · rename_i y1 y2 hd hb hchk
        cases hret
        simp only [Bool.and_eq_true] at hchk
        obtain ⟨hkept, hnames⟩ := hchk
        obtain ⟨us, v, h1, h2, h3⟩ := results_run (P := P) k.good t hvs
        have hl' : (entryIds g.bs.length).length = g.bs.length := by simp [entryIds]
        let L : List Ent := boxEnts g.bs st.heap (entryIds g.bs.length) (entryIds g.bs.length) 2000 y2 ++ resEnts g.rs vs 3000 y1
        have eH : entH L = outH g (y1, y2) := by
          show entH (_ ++ _) = _
          rw [entH_append, boxEnts_heap _ _ _ _ _ _ hb hl', resEnts_heap]; rfl
        have eN : L.map (·.1) = outNames g := by
          show (_ ++ _ : List Ent).map _ = _
          rw [List.map_append, boxEnts_names _ _ _ _ _ _ hb hl', resEnts_names]; rfl
        have eS : L.filterMap (·.2.1) = boxKept g.bs st.heap (entryIds g.bs.length) ++ resKept g.rs vs := by
          show (_ ++ _ : List Ent).filterMap _ = _
          rw [List.filterMap_append, boxEnts_src _ _ _ _ _ _ hb hl', resEnts_src _ _ _ _ hd]
        have hn : nodupB (L.map (·.1)) = true := by rw [eN]; exact hnames
        have hψ := ents_ψ (ψ := ψ1) hn
        have hz : ∀ b, Z1 b → Zof Z1 ψ1 st.heap.get (resFrz g.rs vs ++ boxFrz g.bs st.heap (entryIds g.bs.length)) b := fun b hb => .inl hb
        have hkd := (kept_spec hkept).2 st.heap
        have g' : Good (Zof Z1 ψ1 st.heap.get (resFrz g.rs vs ++ boxFrz g.bs st.heap (entryIds g.bs.length))) (entψ ψ1 L) (entH L).get w1 w.heap.size (Own ψ0 (inH g x)) := by
          refine move_good k.good hkept hn eS fun e he => ?_
          rcases List.mem_append.1 he with he | he
          · exact boxEnts_ok k.good hz g.bs _ _ 2000 y2 hb (fun id b hid h1 h2 => .inr ⟨id, List.mem_append_right _ hid, h1, h2⟩) (fun s hs => hkd s (List.mem_append_left _ hs)) (fun e he => hψ e (List.mem_append_left _ he)) e he
          · exact resEnts_ok g.rs vs 3000 y1 hd (fun s hs => hkd s (List.mem_append_right _ hs)) e he
        obtain ⟨hlen2, hsome⟩ := boxesIn_some _ _ _ hb
        have hrl := res_rep (ids2 := entryIds g.bs.length) (Z' := Zof Z1 ψ1 st.heap.get (resFrz g.rs vs ++ boxFrz g.bs st.heap (entryIds g.bs.length))) (ψ' := entψ ψ1 L) (h' := (entH L).get) k.good hz hb hl' (fun e he => hψ e (List.mem_append_left _ he)) g.rs vs 3000 y1 us hd
          (fun id b hid h1 h2 => .inr ⟨id, List.mem_append_left _ hid, h1, h2⟩) (fun e he => hψ e (List.mem_append_right _ he)) h2
        refine ⟨v, h1, v, Zof Z1 ψ1 st.heap.get (resFrz g.rs vs ++ boxFrz g.bs st.heap (entryIds g.bs.length)), entψ ψ1 L, rfl, fun b hb => .inl (k.zsub b hb), fun b hb => ?_, ⟨k.os, k.tape, k.output, k.size, k.block⟩, by rw [← eH]; exact g', fun i hi => ?_, ?_⟩
        · rcases zof_own hb with h4 | ⟨id, h4, h5⟩
          · exact k.zfrom b h4
          · exact .inr (k.good.live id b h4 h5).2.symm
        · obtain ⟨o, ho⟩ := boxEnts_zip (hh := st.heap) g.bs (entryIds g.bs.length) (entryIds g.bs.length) 2000 y2 hlen2 (i, i) (zip_self hi)
          rw [entψ_mem hn (List.mem_append_left _ ho)]
          obtain ⟨j, h4, h5⟩ := entryIds_mem hi
          exact k.fix i (by omega) (hsome i hi)
        · rw [← eH]
          have hlen3 : us.length = (encRes g.rs (entryIds g.bs.length) 2000 3000 y1).length := hrl.length.symm
          rw [h3]
          match hE : encRes g.rs (entryIds g.bs.length) 2000 3000 y1, us, hrl, hlen3 with
          | [], [], hrl, _ => simp only [tupOf]; simp only [Rep]; exact ⟨#[], rfl, by simpa using hrl⟩
          | [e1], [u], hrl, _ =>
            simp only [RepL] at hrl
            obtain ⟨u', us', he, h4, _⟩ := hrl
            cases he
            simpa [tupOf] using h4
          | e1 :: e2 :: er, u1 :: u2 :: ur, hrl, _ =>
            simp only [tupOf, Rep]
            exact ⟨(u1 :: u2 :: ur).toArray, by simp, by simpa using hrl⟩
      · cases hret
    have reach := items_sound V hm (b := b) (cs := cs) (fun sh c k x Z ψ a w h1 h2 h3 => runL_sound V hm hret n sh c k x Z ψ a w h1 h2 h3) hret fuel _ _ Z ψ0 a0 w hx ok0 tr0
    obtain ⟨a', w', todo, ⟨hd, v, hres, hR⟩, hs⟩ := reach
    rw [← henter] at hs
    exact ⟨.returned v, w', _, hR, hs, rfl, rfl, hd, rfl, fn, hf.1, hres⟩
  · cases hx
end

/-- The functions are what their contracts say: those that are given, and those that are run. -/
theorem fn_sound (hX : ∀ f g u, Sg f = some g → g.x = some u → XSound P (f % 1000) u) {G : (f : FuncId) → (g : Sig) → Option (g.A → Option g.B)} {An : FuncId → Nat → Option Shape} (hEq : ∀ t k, Eqs t = some k → EqFact P t k) (hcal : ∀ f g, Sg f = some g → Callable P (f % 1000)) (hm : P.follows .mixedOrders = true)
    (hG : ∀ f g u x y, Sg f = some g → G f g = some u → u x = some y → Con P f g x y) : ∀ (m : Nat) f g x y, Sg f = some g → Fn P Eqs Sg An G m f g x = some y → Con P f g x y
  | 0, f, g, x, y, hs, hx => by
    simp only [Fn] at hx
    split at hx
    · rename_i u hu; exact hG f g u x y hs hu hx
    · cases hx
  | m + 1, f, g, x, y, hs, hx => by
    simp only [Fn] at hx
    split at hx
    · rename_i u hu; exact hG f g u x y hs hu hx
    · exact con_of_run ⟨hEq, fun f g x y h1 h2 => fn_sound hX hEq hcal hm hG m f g x y h1 h2, hX, hcal⟩ hm hx
end Go.Vs

set_option linter.unusedSimpArgs false
set_option linter.unusedVariables false
namespace Go.Vs
abbrev FT := (f : FuncId) → (g : Sig) → g.A → Option g.B
variable {P : Program} {Eqs : TypeId → Option K} {Sg : FuncId → Option Sig} {R : Type}

/-- From some time on. -/
def Evt (p : Nat → Prop) : Prop := ∃ m, ∀ m', m ≤ m' → p m'
theorem Evt.now {p : Nat → Prop} (h : ∀ m, p m) : Evt p := ⟨0, fun m _ => h m⟩
theorem Evt.and {p q r : Nat → Prop} (h : Evt p) (k : Evt q) (hr : ∀ m, p m → q m → r m) : Evt r := by
  obtain ⟨a, ha⟩ := h
  obtain ⟨b, hb⟩ := k
  exact ⟨max a b, fun m hm => hr m (ha m (by omega)) (hb m (by omega))⟩
theorem Evt.imp {p r : Nat → Prop} (h : Evt p) (hr : ∀ m, p m → r m) : Evt r := by
  obtain ⟨a, ha⟩ := h
  exact ⟨a, fun m hm => hr m (ha m hm)⟩

/-- A comes to L. -/
def To (A : Nat → FT) (L : FT) : Prop := ∀ f g x y, L f g x = some y → Evt fun m => A m f g x = some y
def ToK {α : Type} (A : Nat → α → Option R) (L : α → Option R) : Prop := ∀ x y, L x = some y → Evt fun m => A m x = some y
def ToJ (A : Nat → (sh : Shape) → List Item → sh.T → Option R) (L : (sh : Shape) → List Item → sh.T → Option R) : Prop := ∀ sh k x y, L sh k x = some y → Evt fun m => A m sh k x = some y

/-- A call asks one thing. -/
theorem call_ask (h : Heap) (id : Nat) (f : FuncId) (vs : List AV) : (∀ F F' : FT, opCall Sg F h id f vs some = opCall Sg F' h id f vs some) ∨
    ∃ ff g x, (∀ F F' : FT, F ff g x = F' ff g x → opCall Sg F h id f vs some = opCall Sg F' h id f vs some) ∧ ∀ F : FT, F ff g x = none → opCall Sg F h id f vs some = none := by
  unfold opCall
  split
  · exact .inl fun _ _ => rfl
  rename_i g hg
  split
  · exact .inl fun _ _ => rfl
  split
  · split
    · split
      · rename_i x b hx hb hp
        refine .inr ⟨_, g, (x, b), fun F F' e => by rw [e], fun F e => by rw [e]; rfl⟩
      · exact .inl fun _ _ => rfl
    · split
      · rename_i x b hx hb hp
        refine .inr ⟨_, g, (x, b), fun F F' e => by rw [e], fun F e => by rw [e]; rfl⟩
      · exact .inl fun _ _ => rfl
  · exact .inl fun _ _ => rfl
theorem call_to {A : Nat → FT} {L : FT} (hA : To A L) {h : Heap} {id : Nat} {f : FuncId} {vs : List AV} {e : Eff} (he : opCall Sg L h id f vs some = some e) : Evt fun m => opCall Sg (A m) h id f vs some = some e := by
  rcases call_ask (Sg := Sg) h id f vs with k | ⟨ff, g, x, k1, k2⟩
  · exact .now fun m => (k _ _).trans he
  · cases hy : L ff g x with
    | none => rw [k2 L hy] at he; cases he
    | some y => exact (hA _ _ _ _ hy).imp fun m hm => (k1 (A m) L (hm.trans hy.symm)).trans he
theorem opSem_to {A : Nat → FT} {L : FT} (hA : To A L) {id : Nat} {h : Heap} {s : List (Nat × AV)} {o : Oper} {e : Eff} (he : opSem P Eqs Sg L id h s o some = some e) : Evt fun m => opSem P Eqs Sg (A m) id h s o some = some e := by
  obtain ⟨dst, op, type, pos, after, guard⟩ := o
  cases op with
  | call c =>
    obtain ⟨callee, args, argTypes⟩ := c
    cases callee with
    | value f =>
      simp only [opSem] at he
      split at he
      · rename_i f' cap hf
        refine (call_to hA he).imp fun m hm => ?_
        simp only [opSem, hf]
        exact hm
      · cases he
    | builtin bi => cases bi <;> exact .now fun m => he
    | invoke _ _ => exact .now fun m => he
  | unOp u _ _ => cases u <;> exact .now fun m => he
  | makeFunc fn _ _ => cases fn <;> exact .now fun m => he
  | makeMap _ r => cases r <;> exact .now fun m => he
  | next _ b => cases b <;> exact .now fun m => he
  | _ => exact .now fun m => he

theorem Evt.all {p : Nat → Nat → Prop} : ∀ (n : Nat), (∀ j, j < n → Evt (p j)) → Evt fun m => ∀ j, j < n → p j m
  | 0, _ => .now fun m j hj => absurd hj (Nat.not_lt_zero _)
  | n + 1, h => (Evt.all n fun j hj => h j (by omega)).and (h n (by omega)) fun m h1 h2 j hj => by
    by_cases e : j = n
    · subst e; exact h2
    · exact h1 j (by omega)
theorem opNextM_to {h : Heap} {x : AV} {K : Nat → AV → Heap → Option R} {KL : AV → Heap → Option R} (hK : ∀ v h y, KL v h = some y → Evt fun m => K m v h = some y) {r : R} (he : opNextM h x KL = some r) : Evt fun m => opNextM h x (K m) = some r := by
  unfold opNextM at he ⊢
  split at he
  · rename_i id
    split at he
    · rename_i kk vk p hg
      try simp only [hg]
      cases hp : p.2 with
      | nil =>
        simp only [hp, List.isEmpty_nil, cond_true] at he ⊢
        exact hK _ _ _ he
      | cons c l =>
        simp only [hp, List.isEmpty_cons, cond_false] at he ⊢
        have h1 := anyN_spec he
        refine (Evt.all _ fun j hj => ?_).imp fun m hm => anyN_of (by simp) hm
        have h2 := h1 j hj
        rw [List.getElem?_eq_getElem hj] at h2 ⊢
        simp only [Option.bind_some] at h2 ⊢
        exact hK _ _ _ h2
    · cases he
  · cases he
theorem opNil_to {h : Heap} {x : AV} {want : Bool} {K : Nat → AV → Option R} {KL : AV → Option R} (hK : ∀ v y, KL v = some y → Evt fun m => K m v = some y) {r : R} (he : opNil h x want KL = some r) : Evt fun m => opNil h x want (K m) = some r := by
  unfold opNil at he ⊢
  split at he
  · exact hK _ _ he
  · rename_i xs hv
    cases hxs : xs.isEmpty with
    | true =>
      simp only [hxs, cond_true] at he ⊢
      have h1 := anyN_spec he
      exact (Evt.all _ fun j hj => hK _ _ (h1 j hj)).imp fun m hm => anyN_of (by decide) hm
    | false =>
      simp only [hxs, cond_false] at he ⊢
      exact hK _ _ he
  · cases he
theorem execOps_to {A : Nat → FT} {L : FT} (hA : To A L) {rid : Nat} {draw : Bool} {ops : Array Oper} {b : Array Nat} {K : Nat → St → Option R} {KL : St → Option R} (hK : ToK K KL) :
    ∀ (l : List (Nat × Oper)) (st : St) (r : R), execOps P Eqs Sg L rid draw ops b l st KL = some r → Evt fun m => execOps P Eqs Sg (A m) rid draw ops b l st (K m) = some r
  | [], st, r, he => hK st r (by simpa only [execOps] using he)
  | (i, o) :: l, st, r, he => by
    have ih := execOps_to hA (rid := rid) (draw := draw) (ops := ops) (b := b) hK l
    have run : ∀ st : St, (match (if draw then none else spRange P (opId rid i) st o) with
        | some st' => execOps P Eqs Sg L rid draw ops b l st' KL
        | none => match (if draw then none else isNextM o) with
        | some x => opNextM st.heap (ρ st.tmps x) fun v h => execOps P Eqs Sg L rid draw ops b l (({ st with heap := h } : St).put o.dst v) KL
        | none => match (if draw then none else isNil P o) with
        | some (x, want) => opNil st.heap (ρ st.tmps x) want fun v => execOps P Eqs Sg L rid draw ops b l (st.put o.dst v) KL
        | none => if draw then opSem P Eqs Sg L (opId rid i) (dels (ahead rid (b.getD i 0) st.heap) (ftOf ops b i st.tmps o)) st.tmps o fun e =>
          if (effOk true rid ops b i (b.getD i 0) (frameE (ftOf ops b i st.tmps o) (ahead rid (b.getD i 0) st.heap) e) && clearE (ftOf ops b i st.tmps o) e) = true then
            execOps P Eqs Sg L rid draw ops b l ({ st with heap := match frameE (ftOf ops b i st.tmps o) (ahead rid (b.getD i 0) st.heap) e with | .wr _ h => h | e => e.h st.heap }.put o.dst e.v) KL else none
          else opSem P Eqs Sg L (opId rid i) st.heap st.tmps o fun e =>
          if effOk false rid ops b i (2 ^ i - 1) e then execOps P Eqs Sg L rid draw ops b l ({ st with heap := match e with | .wr _ h => h | e => e.h st.heap }.put o.dst e.v) KL else none) = some r →
        Evt fun m => (match (if draw then none else spRange P (opId rid i) st o) with
        | some st' => execOps P Eqs Sg (A m) rid draw ops b l st' (K m)
        | none => match (if draw then none else isNextM o) with
        | some x => opNextM st.heap (ρ st.tmps x) fun v h => execOps P Eqs Sg (A m) rid draw ops b l (({ st with heap := h } : St).put o.dst v) (K m)
        | none => match (if draw then none else isNil P o) with
        | some (x, want) => opNil st.heap (ρ st.tmps x) want fun v => execOps P Eqs Sg (A m) rid draw ops b l (st.put o.dst v) (K m)
        | none => if draw then opSem P Eqs Sg (A m) (opId rid i) (dels (ahead rid (b.getD i 0) st.heap) (ftOf ops b i st.tmps o)) st.tmps o fun e =>
          if (effOk true rid ops b i (b.getD i 0) (frameE (ftOf ops b i st.tmps o) (ahead rid (b.getD i 0) st.heap) e) && clearE (ftOf ops b i st.tmps o) e) = true then
            execOps P Eqs Sg (A m) rid draw ops b l ({ st with heap := match frameE (ftOf ops b i st.tmps o) (ahead rid (b.getD i 0) st.heap) e with | .wr _ h => h | e => e.h st.heap }.put o.dst e.v) (K m) else none
          else opSem P Eqs Sg (A m) (opId rid i) st.heap st.tmps o fun e =>
          if effOk false rid ops b i (2 ^ i - 1) e then execOps P Eqs Sg (A m) rid draw ops b l ({ st with heap := match e with | .wr _ h => h | e => e.h st.heap }.put o.dst e.v) (K m) else none) = some r := by
      intro st h
      split at h
      · rename_i st' hsp
        try simp only [hsp]
        exact ih _ r h
      rename_i hsp
      split at h
      · rename_i x hnx
        try simp only [hsp, hnx]
        exact opNextM_to (fun v h y hy => ih _ y hy) h
      rename_i hnx
      split at h
      · rename_i x want hnl
        try simp only [hsp, hnx, hnl]
        exact opNil_to (fun v y hy => ih _ y hy) h
      rename_i hnl
      try simp only [hsp, hnx, hnl]
      cases draw with
      | true =>
        simp only [if_true] at h ⊢
        rw [opSem_cps] at h
        obtain ⟨e, h1, h2⟩ := Option.bind_eq_some_iff.1 h
        by_cases hc : (effOk true rid ops b i (b.getD i 0) (frameE (ftOf ops b i st.tmps o) (ahead rid (b.getD i 0) st.heap) e) && clearE (ftOf ops b i st.tmps o) e) = true
        · rw [if_pos hc] at h2
          refine (opSem_to hA h1).and (ih _ r h2) fun m h3 h4 => ?_
          rw [opSem_cps, h3, Option.bind_some, if_pos hc]
          exact h4
        · rw [if_neg hc] at h2; cases h2
      | false =>
        simp only [Bool.false_eq_true, if_false] at h ⊢
        rw [opSem_cps] at h
        obtain ⟨e, h1, h2⟩ := Option.bind_eq_some_iff.1 h
        by_cases hc : effOk false rid ops b i (2 ^ i - 1) e = true
        · rw [if_pos hc] at h2
          refine (opSem_to hA h1).and (ih _ r h2) fun m h3 h4 => ?_
          rw [opSem_cps, h3, Option.bind_some, if_pos hc]
          exact h4
        · rw [if_neg hc] at h2; cases h2
    simp only [execOps] at he ⊢
    split at he
    · rename_i hg
      try simp only [hg]
      exact run _ he
    · rename_i j want hg
      try simp only [hg]
      split at he
      · cases he
      · rename_i d hd
        try simp only [hd]
        split at he
        · rename_i t ht
          try simp only [ht]
          cases t <;> cases want <;> simp only [cond_true, cond_false, if_true, if_false, Bool.false_eq_true] at he ⊢ <;> first | exact run _ he | exact ih _ r he
        · rename_i ht
          try simp only [ht]
          exact ih _ r he
        · cases he

theorem execRegion_to {A : Nat → FT} {L : FT} (hA : To A L) {n rid : Nat} {ops : Array Oper} {draw : Bool} {K : Nat → St → Option R} {KL : St → Option R} (hK : ToK K KL) {st : St} {r : R}
    (he : execRegion P Eqs Sg L n rid ops draw st KL = some r) : Evt fun m => execRegion P Eqs Sg (A m) n rid ops draw st (K m) = some r := by
  unfold execRegion at he ⊢
  by_cases hc : ((ops.all fun o => dstsOk n o) && (!draw || (befOk ops (if draw then Region.before ops else #[]) && (pairOk ops (if draw then Region.before ops else #[]) && nodupB (ops.toList.filterMap (·.dst))))) && decide (ops.size ≤ 128)) = true
  · dsimp only at he ⊢
    rw [if_pos hc] at he
    refine (execOps_to hA hK _ _ r he).imp fun m hm => ?_
    rw [if_pos hc]
    exact hm
  · dsimp only at he
    rw [if_neg hc] at he; cases he

theorem execItems_to {A : Nat → FT} {L : FT} (hA : To A L) {n : Nat} {ann : Nat → Option Shape} {J : Nat → (sh : Shape) → List Item → sh.T → Option R} {JL : (sh : Shape) → List Item → sh.T → Option R} (hJ : ToJ J JL) {ret : St → Option R} :
    ∀ (fu : Nat) (items : List Item) (st : St) (r : R), execItems P Eqs Sg L n ann JL ret fu items st = some r → Evt fun m => execItems P Eqs Sg (A m) n ann (J m) ret fu items st = some r
  | 0, items, st, r, he => by cases items <;> simp only [execItems] at he <;> cases he
  | fu + 1, [], st, r, he => .now fun m => by simpa only [execItems] using he
  | fu + 1, it :: its, st, r, he => by
    have ih := execItems_to hA (n := n) (ann := ann) hJ (ret := ret) fu
    cases it with
    | inBlock id => simp only [execItems] at he ⊢; exact ih _ _ _ he
    | inScope c => simp only [execItems] at he ⊢; exact ih _ _ _ he
    | inLoop c =>
      simp only [execItems] at he ⊢
      split at he
      · cases he
      · rename_i sh hsh
        try simp only [hsh]
        split at he
        · rename_i x hx
          try simp only [hx]
          exact hJ _ _ _ _ he
        · cases he
    | code c =>
      cases c with
      | cond c x y =>
        simp only [execItems] at he ⊢
        split at he
        · rename_i t ht
          try simp only [ht]
          cases t <;> simp only [cond_true, cond_false] at he ⊢ <;> exact ih _ _ _ he
        · cases he
      | exit id =>
        simp only [execItems] at he ⊢
        split at he
        · rename_i k' hk
          try simp only [hk]
          exact ih _ _ _ he
        · cases he
      | ret => exact .now fun m => by simpa only [execItems] using he
      | region id ops draw =>
        simp only [execItems] at he ⊢
        exact execRegion_to hA (K := fun m st' => execItems P Eqs Sg (A m) n ann (J m) ret fu its st') (fun st y h => ih its st y h) he
      | skip => simp only [execItems] at he ⊢; exact ih _ _ _ he
      | label l => simp only [execItems] at he ⊢; exact ih _ _ _ he
      | seq x y => simp only [execItems] at he ⊢; exact ih _ _ _ he
      | block id c => simp only [execItems] at he ⊢; exact ih _ _ _ he
      | scope c => simp only [execItems] at he ⊢; exact ih _ _ _ he
      | loop c => simp only [execItems] at he ⊢; exact ih _ _ _ he
      | _ => simp only [execItems] at he; cases he
    | _ => simp only [execItems] at he; cases he

section
variable {An : FuncId → Nat → Option Shape} {G : (f : FuncId) → (g : Sig) → Option (g.A → Option g.B)}
def FLe (F F' : FT) : Prop := ∀ f g x y, F f g x = some y → F' f g x = some y
theorem FLe.to {F F' : FT} (h : FLe F F') : To (fun _ => F') F := fun f g x y hy => .now fun _ => h f g x y hy
theorem Evt.get {p : Prop} (h : Evt fun _ => p) : p := by obtain ⟨m, hm⟩ := h; exact hm m (Nat.le_refl _)
theorem runL_mono {F F' : FT} (h : FLe F F') {f : FuncId} {g : Sig} {fn : Func} : ∀ (n n' : Nat) (sh : Shape) (k : List Item) (x : sh.T) (y : g.B), n ≤ n' → runL P Eqs Sg An F f g fn n sh k x = some y → runL P Eqs Sg An F' f g fn n' sh k x = some y
  | 0, _, _, _, _, _, _, hx => by simp only [runL] at hx; cases hx
  | n + 1, 0, _, _, _, _, hn, _ => by omega
  | n + 1, n' + 1, sh, k, x, y, hn, hx => by
    cases k with
    | nil => simp only [runL] at hx; cases hx
    | cons it k =>
      cases it with
      | inLoop c =>
        simp only [runL] at hx ⊢
        exact (execItems_to h.to (J := fun _ => runL P Eqs Sg An F' f g fn n') (JL := runL P Eqs Sg An F f g fn n) (fun sh k x y hy => .now fun _ => runL_mono h n n' sh k x y (by omega) hy) _ _ _ _ hx).get
      | _ => simp only [runL] at hx; cases hx
theorem runF_mono {F F' : FT} (h : FLe F F') {f : FuncId} {g : Sig} {n n' : Nat} {x : g.A} {y : g.B} (hn : n ≤ n') (hx : runF P Eqs Sg An F f g n x = some y) : runF P Eqs Sg An F' f g n' x = some y := by
  unfold runF at hx ⊢
  split at hx
  · cases hx
  · rename_i fn c hb
    try simp only [hb]
    split at hx
    · rename_i hc
      simp only [if_pos hc]
      exact (execItems_to h.to (J := fun _ => runL P Eqs Sg An F' f g fn n') (JL := runL P Eqs Sg An F f g fn n) (fun sh k x y hy => .now fun _ => runL_mono h n n' sh k x y hn hy) _ _ _ _ hx).get
    · cases hx
theorem Fn_step : ∀ m, FLe (Fn P Eqs Sg An G m) (Fn P Eqs Sg An G (m + 1))
  | 0, f, g, x, y, hx => by
    simp only [Fn] at hx ⊢
    split at hx
    · rename_i u hu; (try simp only [hu]); exact hx
    · cases hx
  | m + 1, f, g, x, y, hx => by
    rw [Fn] at hx ⊢
    split at hx
    · rename_i u hu; (try simp only [hu]); exact hx
    · rename_i hu
      try simp only [hu]
      exact runF_mono (Fn_step m) (Nat.le_succ m) hx
theorem Fn_mono {m m' : Nat} (h : m ≤ m') : FLe (Fn P Eqs Sg An G m) (Fn P Eqs Sg An G m') := by
  induction h with
  | refl => exact fun _ _ _ _ h => h
  | step _ ih => exact fun f g x y hx => Fn_step _ f g x y (ih f g x y hx)

variable (P Eqs Sg An G) in
open Classical in
/-- A function, whatever depth and rounds it wants. -/
noncomputable def Fix : FT := fun f g x => if h : ∃ m y, Fn P Eqs Sg An G m f g x = some y then some (Classical.choose (Classical.choose_spec h)) else none
theorem Fix_to : To (Fn P Eqs Sg An G) (Fix P Eqs Sg An G) := fun f g x y hy => by
  unfold Fix at hy
  split at hy
  · rename_i h
    cases hy
    exact ⟨Classical.choose h, fun m' hm => Fn_mono hm _ _ _ _ (Classical.choose_spec (Classical.choose_spec h))⟩
  · cases hy
theorem Fix_of {m : Nat} {f : FuncId} {g : Sig} {x : g.A} {y : g.B} (h : Fn P Eqs Sg An G m f g x = some y) : Fix P Eqs Sg An G f g x = some y := by
  have he : ∃ m y, Fn P Eqs Sg An G m f g x = some y := ⟨m, y, h⟩
  cases hy : Fix P Eqs Sg An G f g x with
  | none => unfold Fix at hy; rw [dif_pos he] at hy; cases hy
  | some y' =>
    obtain ⟨m1, h1⟩ := Fix_to f g x y' hy
    have h2 := h1 (max m m1) (by omega)
    have h3 := Fn_mono (show m ≤ max m m1 by omega) f g x y h
    rw [h2] at h3
    exact h3
variable (P Eqs Sg An G) in
open Classical in
/-- A loop, whatever rounds it wants. -/
noncomputable def Lp (f : FuncId) (g : Sig) (fn : Func) (sh : Shape) (k : List Item) (x : sh.T) : Option g.B :=
  if h : ∃ m y, runL P Eqs Sg An (Fn P Eqs Sg An G m) f g fn m sh k x = some y then some (Classical.choose (Classical.choose_spec h)) else none
theorem Lp_to {f : FuncId} {g : Sig} {fn : Func} : ToJ (fun m => runL P Eqs Sg An (Fn P Eqs Sg An G m) f g fn m) (Lp P Eqs Sg An G f g fn) := fun sh k x y hy => by
  unfold Lp at hy
  split at hy
  · rename_i h
    cases hy
    exact ⟨Classical.choose h, fun m' hm => runL_mono (Fn_mono hm) _ _ _ _ _ _ hm (Classical.choose_spec (Classical.choose_spec h))⟩
  · cases hy
theorem Lp_of {m : Nat} {f : FuncId} {g : Sig} {fn : Func} {sh : Shape} {k : List Item} {x : sh.T} {y : g.B} (h : runL P Eqs Sg An (Fn P Eqs Sg An G m) f g fn m sh k x = some y) : Lp P Eqs Sg An G f g fn sh k x = some y := by
  have he : ∃ m y, runL P Eqs Sg An (Fn P Eqs Sg An G m) f g fn m sh k x = some y := ⟨m, y, h⟩
  cases hy : Lp P Eqs Sg An G f g fn sh k x with
  | none => unfold Lp at hy; rw [dif_pos he] at hy; cases hy
  | some y' =>
    obtain ⟨m1, h1⟩ := Lp_to sh k x y' hy
    have h2 := h1 (max m m1) (by omega)
    have h3 := runL_mono (Fn_mono (show m ≤ max m m1 by omega)) m (max m m1) sh k x y (by omega) h
    exact h2.symm.trans h3

/-- A function that is run. -/
theorem Fix_run {f : FuncId} {g : Sig} {x : g.A} {y : g.B} {fn : Func} {c : Code} (hG : G f g = none) (hb : body P (f % 1000) = some (fn, c)) (hc : (decide (g.ps.length ≤ fn.ntmps) && decide (g.bs.length ≤ 8)) = true)
    (h : execItems P Eqs Sg (Fix P Eqs Sg An G) fn.ntmps (An f) (Lp P Eqs Sg An G f g fn) (retOf P g fn) fuel [.code c] (entry g x) = some y) : Fix P Eqs Sg An G f g x = some y := by
  obtain ⟨m, hm⟩ := execItems_to (Fix_to (P := P) (Eqs := Eqs) (Sg := Sg) (An := An) (G := G)) (Lp_to (f := f) (g := g) (fn := fn)) _ _ _ _ h
  refine Fix_of (m := m + 1) ?_
  simp only [Fn, hG]
  unfold runF
  simp only [hb, if_pos hc]
  exact hm m (Nat.le_refl _)
/-- A round. -/
theorem Lp_run {f : FuncId} {g : Sig} {fn : Func} {sh : Shape} {c : Code} {k : List Item} {x : sh.T} {y : g.B}
    (h : execItems P Eqs Sg (Fix P Eqs Sg An G) fn.ntmps (An f) (Lp P Eqs Sg An G f g fn) (retOf P g fn) fuel (.code c :: .inLoop c :: k) (fromHead sh x) = some y) : Lp P Eqs Sg An G f g fn sh (.inLoop c :: k) x = some y := by
  obtain ⟨m, hm⟩ := execItems_to (Fix_to (P := P) (Eqs := Eqs) (Sg := Sg) (An := An) (G := G)) (Lp_to (f := f) (g := g) (fn := fn)) _ _ _ _ h
  refine Lp_of (m := m + 1) ?_
  simp only [runL]
  refine (execItems_to (L := Fn P Eqs Sg An G m) (FLe.to (Fn_step m)) (J := fun _ => runL P Eqs Sg An (Fn P Eqs Sg An G (m + 1)) f g fn m) (JL := runL P Eqs Sg An (Fn P Eqs Sg An G m) f g fn m) (fun sh k x y hy => .now fun _ => runL_mono (Fn_step m) m m sh k x y (Nat.le_refl _) hy) _ _ _ _ (hm m (Nat.le_refl _))).get

/-- What is said of a function, the machine does. -/
theorem Fix_con (hX : ∀ f g u, Sg f = some g → g.x = some u → XSound P (f % 1000) u) (hEq : ∀ t k, Eqs t = some k → EqFact P t k) (hcal : ∀ f g, Sg f = some g → Callable P (f % 1000)) (hm : P.follows .mixedOrders = true)
    (hG : ∀ f g u x y, Sg f = some g → G f g = some u → u x = some y → Con P f g x y) {f : FuncId} {g : Sig} {x : g.A} {y : g.B} (hs : Sg f = some g) (h : Fix P Eqs Sg An G f g x = some y) : Con P f g x y := by
  obtain ⟨m, hm'⟩ := Fix_to f g x y h
  exact fn_sound hX hEq hcal hm hG m f g x y hs (hm' m (Nat.le_refl _))
end
end Go.Vs

namespace Go.Vs
open Go.Proofs
abbrev Dart := ((Int × Int) × Int)
abbrev ID := (Int × Int)
abbrev Vert := (ID × ((List Dart) × (ByteArray × Int)))
abbrev EdgeT := (ID × (ByteArray × Int))
abbrev Diag := ((List Vert) × (List EdgeT))
abbrev GoneT := (Dart × Dart)
abbrev StateT := (Diag × (List GoneT))
abbrev Cor := (ID × Dart)
abbrev OpT := (Int × (ID × (ID × (ID × (Cor × (Cor × (Bool × (ByteArray × Int))))))))
abbrev WorkT := ((List Vert) × ((List EdgeT) × ((List GoneT) × Unit)))
abbrev k13 : K := (.pair .str (.int .u64))
abbrev k29 : K := (.pair (.int .i64) (.int .i64))
abbrev k68 : K := (.pair .str (.pair (.int .i64) .bool))
abbrev k31 : K := (.pair k29 (.int .i64))
abbrev k7 : K := (.pair (.int .i64) (.pair (.int .i64) (.pair .bool (.int .u8))))
abbrev k55 : K := (.pair k29 (.pair .str (.int .i64)))
abbrev k33 : K := (.pair k29 k31)
abbrev k102 : K := (.pair k31 k31)
abbrev k47 : K := (.pair k29 (.pair (.sl k31) (.pair .str (.int .i64))))
abbrev k24 : K := (.pair (.sl k47) (.sl k55))
abbrev k27 : K := (.pair k24 (.sl k102))
abbrev k35 : K := (.pair (.int .i64) (.pair k29 (.pair k29 (.pair k29 (.pair k33 (.pair k33 (.pair .bool (.pair .str (.int .i64)))))))))
abbrev k75 : K := (.one (.sl k35))
/-- Not too many. -/
def cloneOk (xs : List Vert) (ys : List EdgeT) : Bool := decide (xs.length ≤ 50000000) && (decide (ys.length ≤ 50000000) && xs.all fun v => decide (v.2.1.length ≤ 50000000))
/-- diagram.Clone at rows of one's own. -/
def cloneX (h : Heap) (id : Nat) : List AV → Option (Bool × Eff)
  | [.agg [.osl a, .osl b]] => match ownAt h (.row 48 k47) (.osl a), ownAt h (.row 56 k55) (.osl b) with
    | some xs, some ys => if a = b then none else some (cloneOk xs ys, .new (.agg [.osl (id + 128), .osl (id + 129)]) [(id + 128, .own (.row 48 k47) xs), (id + 129, .own (.row 56 k55) ys)])
    | _, _ => none
  | _ => none
def sg3 : Sig := { ps := [.val k27, .val k35], bs := [], rs := [.val .bool] }
def sg4 : Sig := { ps := [.val (.sl k75), .val k29], bs := [], rs := [.val .bool] }
def sg5 : Sig := { ps := [.val (.sl k75), .val k31, .val k31], bs := [], rs := [.val .bool] }
def sg6 : Sig := { ps := [.val (.sl k75), .val k29, .val (.int .i64)], bs := [], rs := [.val .bool] }
def sg7 : Sig := { ps := [.val (.sl k75), .val k29, .val k68], bs := [], rs := [.val .bool] }
def sg8 : Sig := { ps := [.val (.sl k75), .val k29], bs := [], rs := [.val .bool] }
def sg9 : Sig := { ps := [.val (.sl k75)], bs := [], rs := [.val .bool] }
def sg10 : Sig := { ps := [.val (.sl k75)], bs := [], rs := [.val .bool] }
def sg11 : Sig := { ps := [.val (.sl k75), .val k75], bs := [], rs := [.val .bool] }
def sg12 : Sig := { ps := [], bs := [], rs := [.val .bool] }
def sg13 : Sig := { ps := [.val k27], bs := [], rs := [.val .bool] }
def sg14 : Sig := { ps := [.val k27, .val k35], bs := [], rs := [.val k27, .val (.int .i64)] }
def sg15 : Sig := { ps := [.val k27, .val k35], bs := [], rs := [.val k27, .val (.int .i64)] }
def sg16 : Sig := { ps := [.val k27, .val k27], bs := [], rs := [.val .bool] }
def sg17 : Sig := { ps := [.val (.sl k75)], bs := [], rs := [.val k27] }
def sg18 : Sig := { ps := [.val k24, .val k29], bs := [], rs := [.val k47, .val .bool] }
def sg19 : Sig := { ps := [.val k29], bs := [], rs := [.val .bool] }
def sg20 : Sig := { ps := [.val k24, .val k31], bs := [], rs := [.val k29, .val .bool] }
def sg21 : Sig := { ps := [.val k24, .val k29], bs := [], rs := [.val k55, .val .bool] }
def sg22 : Sig := { ps := [.val k24, .val k31], bs := [], rs := [.val (.sl k31)] }
def sg23 : Sig := { ps := [.val k31], bs := [], rs := [.val k31] }
def sg24 : Sig := { ps := [.val (.sl k31), .val k31], bs := [], rs := [.val (.int .i64)] }
def sg25 : Sig := { ps := [.val k24, .val k29, .val k29], bs := [], rs := [.val .bool] }
def sg26 : Sig := { ps := [.val (.sl k31), .val k31], bs := [], rs := [.val k31, .val .bool] }
def sg27 : Sig := { ps := [.val k24, .val k24], bs := [], rs := [.val .bool] }
def sg28 : Sig := { ps := [.val .str], bs := [], rs := [.val .bool] }
def sg29 : Sig := { ps := [.val (.int .i64)], bs := [], rs := [.val .bool] }
def sg30 : Sig := { ps := [.val k27, .val k75], bs := [], rs := [.val k27, .val (.int .i64)] }
def sg31 : Sig := { ps := [.val k24], bs := [], rs := [.own (.row 46 (.sl k31))] }
def sg32 : Sig := { ps := [.val k24], bs := [], rs := [.val (.int .i64)] }
def sg33 : Sig := { ps := [], bs := [], rs := [.val k27] }
def sg34 : Sig := { ps := [.val k75], bs := [], rs := [.val k75] }
def sg35 : Sig := { ps := [.val k27, .val k75], bs := [], rs := [.val k27, .val (.int .i64)] }
def sg36 : Sig := { ps := [.val k27, .val k75], bs := [], rs := [.val k27] }
def sg37 : Sig := { ps := [.val k27, .val k75], bs := [], rs := [.val k27] }
def sg38 : Sig := { ps := [.val k24], bs := [], rs := [.agg [.own (.row 48 k47), .own (.row 56 k55)]] }
def sg39 : Sig := { ps := [.val (.sl k102)], bs := [], rs := [.val .bool] }
def sg40 : Sig := { ps := [.val k24], bs := [], rs := [.val (.int .i64)] }
def sg41 : Sig := { ps := [.val k75], bs := [], rs := [.val (.int .i64)] }
def sg42 : Sig := { ps := [.val (.int .i64)], bs := [], rs := [.val k75] }
def sg43 : Sig := { ps := [.val k35], bs := [], rs := [.val (.int .i64)] }
def sg44 : Sig := { ps := [.val k27, .val (.sl k35)], bs := [], rs := [.val k27, .val (.int .i64)] }
def sg45 : Sig := { ps := [.val k35], bs := [], rs := [.val (.int .i64)] }
def sg46 : Sig := { ps := [.val k24, .val k47], bs := [], rs := [.val k24] }
def sg47 : Sig := { ps := [.val k24, .val k29, .val k29], bs := [], rs := [.val k24] }
def sg48 : Sig := { ps := [.val k27, .val k35], bs := [], rs := [.val k27, .val (.int .i64)] }
def sg49 : Sig := { ps := [.val k27, .val k35], bs := [], rs := [.val k27, .val (.int .i64)] }
def sg50 : Sig := { ps := [.val k27, .val k35], bs := [], rs := [.val k27, .val (.int .i64)] }
def sg51 : Sig := { ps := [.val k27, .val k35], bs := [], rs := [.val k27, .val (.int .i64)] }
def sg52 : Sig := { ps := [.val k27, .val k35], bs := [], rs := [.val k27, .val (.int .i64)] }
def sg53 : Sig := { ps := [.val (.sl k102), .val (.sl k102)], bs := [], rs := [.val .bool] }
def sg54 : Sig := { ps := [.val k24, .val k31], bs := [], rs := [.val k31, .val .bool] }
def sg55 : Sig := { ps := [.val k24, .val k29], bs := [], rs := [.val (.int .i64)] }
def sg56 : Sig := { ps := [.val k24], bs := [], rs := [.own (.row 3 (.int .i64))] }
def sg57 : Sig := { ps := [.val (.sl k31), .val (.sl k31)], bs := [], rs := [.val .bool] }
def sg58 : Sig := { ps := [.val k75], bs := [], rs := [.val (.int .i64)] }
def sg59 : Sig := { ps := [.val k24], bs := [], rs := [.own (.row 32 k31)] }
def sg60 : Sig := { ps := [.val k24], bs := [], rs := [.agg [.own (.row 48 k47), .own (.row 56 k55)]] }
def sg61 : Sig := { ps := [.val (.sl k102)], bs := [], rs := [.own (.row 103 k102)] }
def sg62 : Sig := { ps := [.val k31, .val k31], bs := [], rs := [.val (.int .i64)] }
def sg63 : Sig := { ps := [.val k24], bs := [], rs := [.val (.int .i64)] }
def sg64 : Sig := { ps := [.val k24], bs := [], rs := [.val (.int .i64)] }
def sg65 : Sig := { ps := [.val k35], bs := [], rs := [.val k35, .val (.int .i64)] }
def sg66 : Sig := { ps := [.ref, .val k35], bs := [.box 109 [.own (.row 48 k47), .own (.row 56 k55), .val (.sl k102)]], rs := [.val (.int .i64)] }
def sg67 : Sig := { ps := [.val k35], bs := [], rs := [.val k35] }
def sg68 : Sig := { ps := [.val k33], bs := [], rs := [.val .bool] }
def sg69 : Sig := { ps := [.val k29, .val k29], bs := [], rs := [.val (.int .i64)] }
def sg70 : Sig := { ps := [.val k27, .val k33], bs := [], rs := [.val k33, .val (.int .i64)] }
def sg71 : Sig := { ps := [.val k24, .val k55], bs := [], rs := [.val k24] }
def sg72 : Sig := { ps := [.val k24, .val k33, .val k31], bs := [], rs := [.val k24] }
def sg73 : Sig := { ps := [.val (.sl k102), .val k102], bs := [], rs := [.val (.sl k102)] }
def sg74 : Sig := { ps := [.val k24, .val k31], bs := [], rs := [.val k31] }
def sg75 : Sig := { ps := [.val k24, .val k31], bs := [], rs := [.val k24] }
def sg76 : Sig := { ps := [.val k24, .val k31, .val k31], bs := [], rs := [.val k24] }
def sg77 : Sig := { ps := [.val (.sl k31)], bs := [], rs := [.own (.row 32 k31)] }
def sg78 : Sig := { ps := [.val k24, .val k31], bs := [], rs := [.val k31, .val .bool] }
def sg79 : Sig := { ps := [.val (.sl k47)], bs := [], rs := [.own (.row 48 k47)] }
def sg80 : Sig := { ps := [.val (.sl k55)], bs := [], rs := [.own (.row 56 k55)] }
def sg81 : Sig := { ps := [.val (.sl k31)], bs := [], rs := [.own (.row 32 k31)] }
def sg82 : Sig := { ps := [.val k24], bs := [], rs := [.own (.row 30 k29)] }
def sg83 : Sig := { ps := [.val (.sl k29)], bs := [], rs := [.val .bool] }
def sg84 : Sig := { ps := [.val k24], bs := [], rs := [.val .bool] }
def sg85 : Sig := { ps := [.val k24], bs := [], rs := [.val (.int .i64), .val (.int .i64), .val (.int .i64), .val (.int .i64)] }
def sg86 : Sig := { ps := [.val k29], bs := [], rs := [.val .bool] }
def sg87 : Sig := { ps := [.val k33], bs := [], rs := [.val .bool] }
def sg88 : Sig := { ps := [.val .str], bs := [], rs := [.val .bool] }
def sg89 : Sig := { ps := [.val (.int .i64)], bs := [], rs := [.val .bool] }
def sg90 : Sig := { ps := [.ref, .val k47], bs := [.box 109 [.own (.row 48 k47), .own (.row 56 k55), .val (.sl k102)]], rs := [.val (.int .i64)] }
def sg91 : Sig := { ps := [.ref, .val k35], bs := [.box 109 [.own (.row 48 k47), .own (.row 56 k55), .val (.sl k102)]], rs := [.val (.int .i64)] }
def sg92 : Sig := { ps := [.ref, .val k35], bs := [.box 109 [.own (.row 48 k47), .own (.row 56 k55), .val (.sl k102)]], rs := [.val (.int .i64)] }
def sg93 : Sig := { ps := [.ref, .val k35], bs := [.box 109 [.own (.row 48 k47), .own (.row 56 k55), .val (.sl k102)]], rs := [.val (.int .i64)] }
def sg94 : Sig := { ps := [.ref, .val k35], bs := [.box 109 [.own (.row 48 k47), .own (.row 56 k55), .val (.sl k102)]], rs := [.val (.int .i64)] }
def sg95 : Sig := { ps := [.ref, .val k35], bs := [.box 109 [.own (.row 48 k47), .own (.row 56 k55), .val (.sl k102)]], rs := [.val (.int .i64)] }
def sg96 : Sig := { ps := [.ref, .val k35], bs := [.box 109 [.own (.row 48 k47), .own (.row 56 k55), .val (.sl k102)]], rs := [.val (.int .i64)] }
def sg97 : Sig := { ps := [.val k31], bs := [], rs := [.val .bool] }
def sg98 : Sig := { ps := [.val k27, .val k31], bs := [], rs := [.val k31] }
def sg99 : Sig := { ps := [.val k24, .val k29, .val (.sl k31)], bs := [], rs := [.val k24] }
def sg100 : Sig := { ps := [.val (.sl k31), .val k31, .val k31], bs := [], rs := [.own (.row 32 k31)] }
def sg101 : Sig := { ps := [.val (.sl k102), .val k31], bs := [], rs := [.val k31, .val .bool] }
def sg102 : Sig := { ps := [.val (.sl k31), .val k31], bs := [], rs := [.own (.row 32 k31)] }
def sg103 : Sig := { ps := [.val (.sl k31), .val k31, .val k31], bs := [], rs := [.own (.row 32 k31)] }
def sg104 : Sig := { ps := [.val (.sl k31), .val k31], bs := [], rs := [.val k31, .val .bool] }
def sg105 : Sig := { ps := [.val k24, .val k31], bs := [], rs := [.val (.int .i64)] }
def sg106 : Sig := { ps := [.val k31], bs := [], rs := [.val .bool] }
def sg107 : Sig := { ps := [.ref, .val k29], bs := [.box 109 [.own (.row 48 k47), .own (.row 56 k55), .val (.sl k102)]], rs := [.val (.int .i64), .val .bool] }
def sg108 : Sig := { ps := [], bs := [], rs := [], x := some (insX 48 k47) }
def sg109 : Sig := { ps := [], bs := [], rs := [], x := some (delX 48 k47) }
def sg110 : Sig := { ps := [.ref, .val k29], bs := [.box 109 [.own (.row 48 k47), .own (.row 56 k55), .val (.sl k102)]], rs := [.val (.int .i64)] }
def sg111 : Sig := { ps := [.val k29], bs := [], rs := [.val k31, .val k31] }
def sg112 : Sig := { ps := [.val k27, .val k33], bs := [], rs := [.val k33, .val (.int .i64)] }
def sg113 : Sig := { ps := [.val (.sl k31), .val k31, .val k31], bs := [], rs := [.own (.row 32 k31)] }
def sg114 : Sig := { ps := [.val k24], bs := [], rs := [.val .bool] }
def sg115 : Sig := { ps := [.ref, .val k29], bs := [.box 109 [.own (.row 48 k47), .own (.row 56 k55), .val (.sl k102)]], rs := [.val (.int .i64), .val .bool] }
def sg116 : Sig := { ps := [.ref, .val k31, .val k31], bs := [.box 109 [.own (.row 48 k47), .own (.row 56 k55), .val (.sl k102)]], rs := [] }
def sg117 : Sig := { ps := [.ref, .val k31], bs := [.box 109 [.own (.row 48 k47), .own (.row 56 k55), .val (.sl k102)]], rs := [.val k31] }
def sg118 : Sig := { ps := [.ref, .val k31], bs := [.box 109 [.own (.row 48 k47), .own (.row 56 k55), .val (.sl k102)]], rs := [.eptr 0 [(0, 5, 0)]] }
def sg119 : Sig := { ps := [.val (.sl k31), .val k31], bs := [], rs := [.own (.row 32 k31)] }
def sg120 : Sig := { ps := [], bs := [], rs := [], x := some (delX 56 k55) }
def sg121 : Sig := { ps := [.val (.sl k31), .val k31, .val k31], bs := [], rs := [.own (.row 32 k31)] }
def sg122 : Sig := { ps := [.val k31], bs := [], rs := [.val k31] }
def sg123 : Sig := { ps := [.val (.sl k31)], bs := [], rs := [.own (.row 32 k31)] }
def sg124 : Sig := { ps := [.ref, .val k35], bs := [.box 109 [.own (.row 48 k47), .own (.row 56 k55), .val (.sl k102)]], rs := [.eptr 0 [(0, 5, 3), (1, 4, 2)], .eptr 0 [(0, 5, 4), (1, 4, 3)]] }
def sg126 : Sig := { ps := [.val k47, .val k29], bs := [], rs := [.val (.int .i64)] }
def sg127 : Sig := { ps := [.val k29, .val k29], bs := [], rs := [.val (.int .i64)] }
def sg130 : Sig := { ps := [], bs := [], rs := [], x := some (insX 56 k55) }
def sg131 : Sig := { ps := [.val k24, .val k29], bs := [], rs := [.val k47, .val .bool] }
def sg132 : Sig := { ps := [.val k27, .val k31], bs := [], rs := [.val k31] }
def sg133 : Sig := { ps := [.val (.sl k31), .val k31], bs := [], rs := [.val .bool] }
def sg134 : Sig := { ps := [.val (.sl k31), .val k31], bs := [], rs := [.val (.int .i64)] }
def sg135 : Sig := { ps := [.val (.sl (.sl k31))], bs := [], rs := [.own (.row 32 k31)] }
def sg136 : Sig := { ps := [.val k24], bs := [], rs := [.val (.int .i64)] }
def sg138 : Sig := { ps := [.val k55, .val k29], bs := [], rs := [.val (.int .i64)] }
def sg139 : Sig := { ps := [.val (.sl k102), .val k102], bs := [], rs := [.own (.row 103 k102)] }
def sg140 : Sig := { ps := [.val (.sl k31), .val k31], bs := [], rs := [.val k31, .val .bool] }
def sg142 : Sig := { ps := [.val k31, .val k31], bs := [], rs := [.val (.int .i64)] }
def sg143 : Sig := { ps := [.val (.sl (.sl k31))], bs := [], rs := [.own (.row 32 k31)] }
def sg144 : Sig := { ps := [.val (.sl (.int .i64))], bs := [], rs := [.val (.int .i64)] }
def sg145 : Sig := { ps := [.val (.int .i64), .val (.int .i64)], bs := [], rs := [.val (.int .i64)] }
def sg150 : Sig := { ps := [.val k47], bs := [], rs := [.val k29] }
def sg151 : Sig := { ps := [.val k24, .val k31], bs := [], rs := [.val k29, .val .bool] }
def sg152 : Sig := { ps := [.val (.sl k102), .val k31], bs := [], rs := [.val k31, .val .bool] }
def sg153 : Sig := { ps := [.val k24], bs := [], rs := [.val (.int .i64), .val (.int .i64), .val (.int .i64), .val (.int .i64)] }
def sg155 : Sig := { ps := [.val k102, .val k31], bs := [], rs := [.val (.int .i64)] }
def sg156 : Sig := { ps := [], bs := [], rs := [], x := some (insX 103 k102) }
def sg157 : Sig := { ps := [.val (.sl k31), .val k31, .val (.int .i64)], bs := [], rs := [.val k31, .val .bool] }
def sg158 : Sig := { ps := [], bs := [], rs := [], x := some (growX 32 k31) }
def sg159 : Sig := { ps := [.val (.int .i64)], bs := [], rs := [.val .bool] }
def sg163 : Sig := { ps := [.val k102, .ref], bs := [.box 32 [.val (.int .i64), .val (.int .i64), .val (.int .i64)]], rs := [.val .bool] }
def sg165 : Sig := { ps := [.val k47], bs := [], rs := [.val .bool] }
def sg166 : Sig := { ps := [.val k24], bs := [], rs := [.own (.row 46 (.sl k31))] }
def sg167 : Sig := { ps := [.val k24], bs := [], rs := [.val (.int .i64)] }
def sg171 : Sig := { ps := [.val k24], bs := [], rs := [.own (.row 32 k31)] }
def sg173 : Sig := { ps := [.val k24], bs := [], rs := [.own (.row 124 (.sl k29))] }
def sg176 : Sig := { ps := [.val k24, .val k31], bs := [], rs := [.val k31, .val .bool] }
def sg177 : Sig := { ps := [.val k24], bs := [], rs := [.own (.row 3 (.int .i64))] }
def sg179 : Sig := { ps := [.val k24, .val k31], bs := [], rs := [.val k31, .val .bool] }
def sg180 : Sig := { ps := [.own, .val (.int .i64), .val (.int .i64)], bs := [.own (.row 3 (.int .i64))], rs := [] }
def sg181 : Sig := { ps := [.own, .val (.int .i64)], bs := [.own (.row 3 (.int .i64))], rs := [.val (.int .i64)] }
def sg182 : Sig := { ps := [.val (.sl k31), .val k31], bs := [], rs := [.val k31, .val .bool] }
def sg127125 : Sig := { ps := [.val (.sl k47), .val k29, .clo 126 0], bs := [], rs := [.val (.int .i64), .val .bool] }
def sg139137 : Sig := { ps := [.val (.sl k55), .val k29, .clo 138 0], bs := [], rs := [.val (.int .i64), .val .bool] }
def sg143141 : Sig := { ps := [.val (.sl k31), .clo 142 0], bs := [], rs := [.val k31] }
def sg151149 : Sig := { ps := [.val (.sl k47), .clo 150 0, .val k29], bs := [], rs := [.val k47, .val .bool] }
def sg156154 : Sig := { ps := [.val (.sl k102), .val k31, .clo 155 0], bs := [], rs := [.val (.int .i64), .val .bool] }
def sg164162 : Sig := { ps := [.val (.sl k102), .clo 163 1], bs := [.box 32 [.val k31]], rs := [.val (.int .i64)] }
def sg166164 : Sig := { ps := [.val (.sl k47), .clo 165 0], bs := [], rs := [.val (.int .i64)] }
def sg500060 : Sig := { ps := [], bs := [], rs := [], x := some cloneX }
def sg900074 : Sig := { ps := [], bs := [], rs := [] }
def sgs : List (Nat × Sig) := [(3, sg3), (4, sg4), (5, sg5), (6, sg6), (7, sg7), (8, sg8), (9, sg9), (10, sg10), (11, sg11), (12, sg12), (13, sg13), (14, sg14), (15, sg15), (16, sg16), (17, sg17), (18, sg18), (19, sg19), (20, sg20), (21, sg21), (22, sg22), (23, sg23), (24, sg24), (25, sg25), (26, sg26), (27, sg27), (28, sg28), (29, sg29), (30, sg30), (31, sg31), (32, sg32), (33, sg33), (34, sg34), (35, sg35), (36, sg36), (37, sg37), (38, sg38), (39, sg39), (40, sg40), (41, sg41), (42, sg42), (43, sg43), (44, sg44), (45, sg45), (46, sg46), (47, sg47), (48, sg48), (49, sg49), (50, sg50), (51, sg51), (52, sg52), (53, sg53), (54, sg54), (55, sg55), (56, sg56), (57, sg57), (58, sg58), (59, sg59), (60, sg60), (61, sg61), (62, sg62), (63, sg63), (64, sg64), (65, sg65), (66, sg66), (67, sg67), (68, sg68), (69, sg69), (70, sg70), (71, sg71), (72, sg72), (73, sg73), (74, sg74), (75, sg75), (76, sg76), (77, sg77), (78, sg78), (79, sg79), (80, sg80), (81, sg81), (82, sg82), (83, sg83), (84, sg84), (85, sg85), (86, sg86), (87, sg87), (88, sg88), (89, sg89), (90, sg90), (91, sg91), (92, sg92), (93, sg93), (94, sg94), (95, sg95), (96, sg96), (97, sg97), (98, sg98), (99, sg99), (100, sg100), (101, sg101), (102, sg102), (103, sg103), (104, sg104), (105, sg105), (106, sg106), (107, sg107), (108, sg108), (109, sg109), (110, sg110), (111, sg111), (112, sg112), (113, sg113), (114, sg114), (115, sg115), (116, sg116), (117, sg117), (118, sg118), (119, sg119), (120, sg120), (121, sg121), (122, sg122), (123, sg123), (124, sg124), (126, sg126), (127, sg127), (130, sg130), (131, sg131), (132, sg132), (133, sg133), (134, sg134), (135, sg135), (136, sg136), (138, sg138), (139, sg139), (140, sg140), (142, sg142), (143, sg143), (144, sg144), (145, sg145), (150, sg150), (151, sg151), (152, sg152), (153, sg153), (155, sg155), (156, sg156), (157, sg157), (158, sg158), (159, sg159), (163, sg163), (165, sg165), (166, sg166), (167, sg167), (171, sg171), (173, sg173), (176, sg176), (177, sg177), (179, sg179), (180, sg180), (181, sg181), (182, sg182), (127125, sg127125), (139137, sg139137), (143141, sg143141), (151149, sg151149), (156154, sg156154), (164162, sg164162), (166164, sg166164), (500060, sg500060), (900074, sg900074)]
def Sg (f : FuncId) : Option Sig := (sgs.find? (fun p => p.1 == f)).map (fun p => p.2)
def eqs : List (Nat × K) := [(30, k29), (32, k31), (34, k33), (36, k35), (56, k55), (103, k102)]
def Eqs (t : TypeId) : Option K := (eqs.find? (fun p => p.1 == t)).map (fun p => p.2)
def sh9_0 : Shape := ⟨[(0, .sl (.one (.sl (.pair (.int .i64) (.pair (.pair (.int .i64) (.int .i64)) (.pair (.pair (.int .i64) (.int .i64)) (.pair (.pair (.int .i64) (.int .i64)) (.pair (.pair (.pair (.int .i64) (.int .i64)) (.pair (.pair (.int .i64) (.int .i64)) (.int .i64))) (.pair (.pair (.pair (.int .i64) (.int .i64)) (.pair (.pair (.int .i64) (.int .i64)) (.int .i64))) (.pair .bool (.pair .str (.int .i64)))))))))))), (3, .bool), (6, .int .i64)], [(.slot 4, 20000, .box 28 [.val k27]), (.slot 5, 20001, .box 28 [.val k27])], [], []⟩
def sh10_0 : Shape := ⟨[(0, .sl (.one (.sl (.pair (.int .i64) (.pair (.pair (.int .i64) (.int .i64)) (.pair (.pair (.int .i64) (.int .i64)) (.pair (.pair (.int .i64) (.int .i64)) (.pair (.pair (.pair (.int .i64) (.int .i64)) (.pair (.pair (.int .i64) (.int .i64)) (.int .i64))) (.pair (.pair (.pair (.int .i64) (.int .i64)) (.pair (.pair (.int .i64) (.int .i64)) (.int .i64))) (.pair .bool (.pair .str (.int .i64)))))))))))), (3, .bool), (5, .int .i64)], [(.slot 4, 20000, .box 28 [.val k27])], [], []⟩
def sh11_0 : Shape := ⟨[(5, .bool), (8, .int .i64), (10, .int .i64), (11, .int .i64)], [(.slot 3, 20000, .box 76 [.val k75]), (.slot 6, 20001, .box 28 [.val k27]), (.slot 7, 20002, .box 28 [.val k27]), (.slot 9, 20003, .box 28 [.val k27])], [], []⟩
def sh17_0 : Shape := ⟨[(0, .sl (.one (.sl (.pair (.int .i64) (.pair (.pair (.int .i64) (.int .i64)) (.pair (.pair (.int .i64) (.int .i64)) (.pair (.pair (.int .i64) (.int .i64)) (.pair (.pair (.pair (.int .i64) (.int .i64)) (.pair (.pair (.int .i64) (.int .i64)) (.int .i64))) (.pair (.pair (.pair (.int .i64) (.int .i64)) (.pair (.pair (.int .i64) (.int .i64)) (.int .i64))) (.pair .bool (.pair .str (.int .i64)))))))))))), (4, .int .i64)], [(.slot 2, 20000, .box 28 [.val k27]), (.slot 3, 20001, .box 28 [.val k27])], [], []⟩
def sh18_0 : Shape := ⟨[(6, .int .i64)], [(.slot 2, 20000, .box 25 [.val k24]), (.slot 3, 20001, .box 30 [.val k29]), (.slot 4, 20002, .box 48 [.val (.int .i64), .val (.int .i64), .own (.row 32 k31), .val .str, .val (.int .i64)])], [], []⟩
def sh20_0 : Shape := ⟨[(6, .int .i64)], [(.slot 2, 20000, .box 25 [.val k24]), (.slot 3, 20001, .box 32 [.val k31]), (.slot 4, 20002, .box 30 [.val k29])], [], []⟩
def sh21_0 : Shape := ⟨[(6, .int .i64)], [(.slot 2, 20000, .box 25 [.val k24]), (.slot 3, 20001, .box 30 [.val k29]), (.slot 4, 20002, .box 56 [.val k55])], [], []⟩
def sh22_0 : Shape := ⟨[], [(.slot 2, 20000, .box 25 [.val k24]), (.slot 3, 20001, .box 32 [.val k31]), (.slot 6, 20002, .box 32 [.val k31])], [(5, 31000, (.row 32 (.pair (.pair (.int .i64) (.int .i64)) (.int .i64))))], []⟩
def sh24_0 : Shape := ⟨[(0, .sl (.pair (.pair (.int .i64) (.int .i64)) (.int .i64))), (5, .int .i64)], [(.slot 3, 20000, .box 32 [.val k31])], [], []⟩
def sh27_0 : Shape := ⟨[(5, .int .i64)], [(.slot 2, 20000, .box 25 [.val k24]), (.slot 3, 20001, .box 25 [.val k24])], [], []⟩
def sh27_1 : Shape := ⟨[(9, .int .i64)], [(.slot 2, 20000, .box 25 [.val k24]), (.slot 3, 20001, .box 25 [.val k24])], [], []⟩
def sh28_0 : Shape := ⟨[(0, .str), (3, .int .i64)], [], [], []⟩
def sh31_0 : Shape := ⟨[(6, .int .i64)], [(.slot 1, 20000, .box 25 [.val k24])], [(3, 31000, (.row 46 (.sl (.pair (.pair (.int .i64) (.int .i64)) (.int .i64))))), (4, 31001, (.row 32 (.pair (.pair (.int .i64) (.int .i64)) (.int .i64)))), (5, 31002, (.row 32 (.pair (.pair (.int .i64) (.int .i64)) (.int .i64))))], []⟩
def sh32_0 : Shape := ⟨[(4, .int .i64), (5, .int .i64)], [], [(3, 31000, (.row 3 (.int .i64)))], []⟩
def sh35_0 : Shape := ⟨[(7, .int .i64)], [(.slot 2, 20000, .box 28 [.val k27]), (.slot 3, 20001, .box 76 [.val k75]), (.slot 4, 20002, .box 28 [.own (.row 48 k47), .own (.row 56 k55), .own (.row 103 k102)])], [], []⟩
def sh38_0 : Shape := ⟨[(4, .int .i64)], [(.slot 1, 20000, .box 25 [.val k24]), (.slot 2, 20001, .box 25 [.own (.row 48 k47), .own (.row 56 k55)]), (.slot 3, 20002, .box 25 [.own (.row 48 k47), .own (.row 56 k55)])], [], []⟩
def sh39_0 : Shape := ⟨[(0, .sl (.pair (.pair (.pair (.int .i64) (.int .i64)) (.int .i64)) (.pair (.pair (.int .i64) (.int .i64)) (.int .i64)))), (3, .int .i64)], [], [], []⟩
def sh41_0 : Shape := ⟨[(3, .int .i64)], [(.slot 1, 20000, .box 76 [.val k75])], [], []⟩
def sh44_0 : Shape := ⟨[(18, .sl (.pair (.int .i64) (.pair (.pair (.int .i64) (.int .i64)) (.pair (.pair (.int .i64) (.int .i64)) (.pair (.pair (.int .i64) (.int .i64)) (.pair (.pair (.pair (.int .i64) (.int .i64)) (.pair (.pair (.int .i64) (.int .i64)) (.int .i64))) (.pair (.pair (.pair (.int .i64) (.int .i64)) (.pair (.pair (.int .i64) (.int .i64)) (.int .i64))) (.pair .bool (.pair .str (.int .i64)))))))))), (19, .int .i64), (20, .int .i64)], [(.slot 4, 20000, .box 28 [.own (.row 48 k47), .own (.row 56 k55), .own (.row 103 k102)]), (.slot 6, 20001, .box 109 [.own (.row 48 k47), .own (.row 56 k55), .val (.sl k102)])], [], []⟩
def sh46_0 : Shape := ⟨[(6, .bool), (7, .int .i64)], [(.slot 2, 20000, .box 25 [.val k24]), (.slot 3, 20001, .box 48 [.val k47]), (.slot 4, 20002, .box 25 [.own (.row 48 k47), .own (.row 56 k55)]), (.slot 5, 20003, .box 25 [.own (.row 48 k47), .val (.sl k55)])], [], []⟩
def sh47_0 : Shape := ⟨[(8, .int .i64)], [(.slot 3, 20000, .box 25 [.val k24]), (.slot 4, 20001, .box 30 [.val k29]), (.slot 5, 20002, .box 30 [.val k29]), (.slot 6, 20003, .box 25 [.own (.row 48 k47), .own (.row 56 k55)]), (.slot 7, 20004, .box 25 [.own (.row 48 k47), .own (.row 56 k55)])], [], []⟩
def sh47_1 : Shape := ⟨[(9, .int .i64)], [(.slot 3, 20000, .box 25 [.val k24]), (.slot 5, 20001, .box 30 [.val k29]), (.slot 6, 20002, .box 25 [.own (.row 48 k47), .own (.row 56 k55)]), (.slot 7, 20003, .box 25 [.own (.row 48 k47), .own (.row 56 k55)])], [], []⟩
def sh51_0 : Shape := ⟨[(12, .sl (.pair (.pair (.pair (.int .i64) (.int .i64)) (.int .i64)) (.pair (.pair (.int .i64) (.int .i64)) (.int .i64)))), (13, .int .i64)], [(.slot 4, 20000, .box 28 [.own (.row 48 k47), .own (.row 56 k55), .own (.row 103 k102)]), (.slot 8, 20001, .box 32 [.val k31]), (.slot 9, 20002, .box 32 [.val k31]), (.slot 10, 20003, .box 32 [.val k31]), (.slot 11, 20004, .box 25 [.val k24])], [], []⟩
def sh52_0 : Shape := ⟨[(7, .bool), (8, .int .i64)], [(.slot 2, 20000, .box 28 [.val k27]), (.slot 3, 20001, .box 36 [.val k35]), (.slot 4, 20002, .box 28 [.own (.row 48 k47), .own (.row 56 k55), .own (.row 103 k102)]), (.slot 6, 20003, .box 25 [.own (.row 48 k47), .own (.row 56 k55)])], [], []⟩
def sh52_1 : Shape := ⟨[(7, .bool), (9, .int .i64)], [(.slot 2, 20000, .box 28 [.val k27]), (.slot 3, 20001, .box 36 [.val k35]), (.slot 4, 20002, .box 28 [.own (.row 48 k47), .own (.row 56 k55), .own (.row 103 k102)]), (.slot 6, 20003, .box 25 [.own (.row 48 k47), .own (.row 56 k55)])], [], []⟩
def sh53_0 : Shape := ⟨[(0, .sl (.pair (.pair (.pair (.int .i64) (.int .i64)) (.int .i64)) (.pair (.pair (.int .i64) (.int .i64)) (.int .i64)))), (1, .sl (.pair (.pair (.pair (.int .i64) (.int .i64)) (.int .i64)) (.pair (.pair (.int .i64) (.int .i64)) (.int .i64)))), (5, .int .i64)], [], [], []⟩
def sh55_0 : Shape := ⟨[(5, .int .i64)], [(.slot 2, 20000, .box 25 [.val k24]), (.slot 3, 20001, .box 30 [.val k29])], [], []⟩
def sh56_0 : Shape := ⟨[(4, .int .i64)], [(.slot 1, 20000, .box 25 [.val k24])], [(3, 31000, (.row 3 (.int .i64)))], []⟩
def sh56_1 : Shape := ⟨[(5, .int .i64)], [(.slot 1, 20000, .box 25 [.val k24])], [(3, 31000, (.row 3 (.int .i64)))], []⟩
def sh56_2 : Shape := ⟨[(5, .int .i64), (6, .int .i64)], [(.slot 1, 20000, .box 25 [.val k24])], [(3, 31000, (.row 3 (.int .i64)))], []⟩
def sh57_0 : Shape := ⟨[(0, .sl (.pair (.pair (.int .i64) (.int .i64)) (.int .i64))), (1, .sl (.pair (.pair (.int .i64) (.int .i64)) (.int .i64))), (5, .int .i64)], [], [], []⟩
def sh58_0 : Shape := ⟨[(17, .sl (.pair (.int .i64) (.pair (.pair (.int .i64) (.int .i64)) (.pair (.pair (.int .i64) (.int .i64)) (.pair (.pair (.int .i64) (.int .i64)) (.pair (.pair (.pair (.int .i64) (.int .i64)) (.pair (.pair (.int .i64) (.int .i64)) (.int .i64))) (.pair (.pair (.pair (.int .i64) (.int .i64)) (.pair (.pair (.int .i64) (.int .i64)) (.int .i64))) (.pair .bool (.pair .str (.int .i64)))))))))), (18, .int .i64), (19, .int .i64)], [], [], []⟩
def sh59_0 : Shape := ⟨[(4, .int .i64)], [(.slot 1, 20000, .box 25 [.val k24])], [(3, 31000, (.row 32 (.pair (.pair (.int .i64) (.int .i64)) (.int .i64))))], []⟩
def sh60_0 : Shape := ⟨[(14, .int .i64), (15, .int .i64)], [(.slot 2, 20000, .box 25 [.own (.row 48 k47), .own (.row 56 k55)]), (.slot 3, 20001, .box 25 [.own (.row 48 k47), .own (.row 56 k55)])], [], []⟩
def sh71_0 : Shape := ⟨[(6, .bool), (7, .int .i64)], [(.slot 2, 20000, .box 25 [.val k24]), (.slot 3, 20001, .box 56 [.val k55]), (.slot 4, 20002, .box 25 [.own (.row 48 k47), .own (.row 56 k55)]), (.slot 5, 20003, .box 25 [.val (.sl k47), .own (.row 56 k55)])], [], []⟩
def sh73_0 : Shape := ⟨[(0, .sl (.pair (.pair (.pair (.int .i64) (.int .i64)) (.int .i64)) (.pair (.pair (.int .i64) (.int .i64)) (.int .i64)))), (8, .bool), (9, .int .i64)], [(.slot 3, 20000, .box 103 [.val k102])], [(7, 31000, (.row 103 (.pair (.pair (.pair (.int .i64) (.int .i64)) (.int .i64)) (.pair (.pair (.int .i64) (.int .i64)) (.int .i64)))))], []⟩
def sh77_0 : Shape := ⟨[(0, .sl (.pair (.pair (.int .i64) (.int .i64)) (.int .i64))), (3, .int .i64), (4, .int .i64)], [], [], []⟩
def sh77_1 : Shape := ⟨[(0, .sl (.pair (.pair (.int .i64) (.int .i64)) (.int .i64))), (3, .int .i64), (6, .int .i64)], [], [(5, 31000, (.row 32 (.pair (.pair (.int .i64) (.int .i64)) (.int .i64))))], []⟩
def sh82_0 : Shape := ⟨[(4, .int .i64)], [(.slot 1, 20000, .box 25 [.val k24])], [(3, 31000, (.row 30 (.pair (.int .i64) (.int .i64))))], []⟩
def sh82_1 : Shape := ⟨[(5, .int .i64)], [(.slot 1, 20000, .box 25 [.val k24])], [(3, 31000, (.row 30 (.pair (.int .i64) (.int .i64))))], []⟩
def sh83_0 : Shape := ⟨[(0, .sl (.pair (.int .i64) (.int .i64))), (3, .int .i64)], [], [], []⟩
def sh84_0 : Shape := ⟨[(3, .int .i64)], [(.slot 1, 20000, .box 25 [.val k24])], [], []⟩
def sh84_1 : Shape := ⟨[(3, .int .i64), (4, .sl (.pair (.pair (.int .i64) (.int .i64)) (.int .i64))), (6, .int .i64)], [(.slot 1, 20000, .box 25 [.val k24])], [], []⟩
def sh84_2 : Shape := ⟨[(9, .int .i64)], [(.slot 1, 20000, .box 25 [.val k24])], [], []⟩
def sh84_3 : Shape := ⟨[(9, .int .i64), (10, .int .i64)], [(.slot 1, 20000, .box 25 [.val k24])], [], []⟩
def sh85_0 : Shape := ⟨[(6, .int .i64), (7, .int .i64)], [(.slot 1, 20000, .box 25 [.val k24])], [], []⟩
def sh88_0 : Shape := ⟨[(0, .str)], [], [(6, 31000, .siter)], []⟩
def sh92_0 : Shape := ⟨[(48, .int .i64), (49, .int .i64)], [(.slot 0, 1000, .box 109 [.own (.row 48 k47), .own (.row 56 k55), .val (.sl k102)]), (.slot 5, 20001, .box 28 [.val k27]), (.slot 7, 20002, .box 32 [.val k31])], [(9, 31000, (.row 32 (.pair (.pair (.int .i64) (.int .i64)) (.int .i64)))), (47, 31001, (.row 34 (.pair (.pair (.int .i64) (.int .i64)) (.pair (.pair (.int .i64) (.int .i64)) (.int .i64)))))], []⟩
def sh93_0 : Shape := ⟨[(5, .int .i64), (32, .int .i64), (33, .int .i64)], [(.slot 0, 1000, .box 109 [.own (.row 48 k47), .own (.row 56 k55), .val (.sl k102)]), (.slot 7, 20001, .box 32 [.val k31]), (.slot 8, 20002, .box 32 [.val k31])], [(31, 31000, (.row 32 (.pair (.pair (.int .i64) (.int .i64)) (.int .i64))))], []⟩
def sh93_1 : Shape := ⟨[(5, .int .i64), (47, .int .i64), (48, .int .i64)], [(.slot 0, 1000, .box 109 [.own (.row 48 k47), .own (.row 56 k55), .val (.sl k102)])], [(46, 31000, (.row 32 (.pair (.pair (.int .i64) (.int .i64)) (.int .i64))))], []⟩
def sh95_0 : Shape := ⟨[(113, .int .i64)], [(.slot 0, 1000, .box 109 [.own (.row 48 k47), .own (.row 56 k55), .val (.sl k102)]), (.slot 8, 20001, .box 32 [.val k31]), (.slot 9, 20002, .box 32 [.val k31]), (.slot 10, 20003, .box 32 [.val k31])], [], []⟩
def sh98_0 : Shape := ⟨[(5, .int .i64)], [(.slot 2, 20000, .box 28 [.val k27]), (.slot 3, 20001, .box 32 [.val k31]), (.slot 4, 20002, .box 32 [.val k31])], [], []⟩
def sh99_0 : Shape := ⟨[(2, .sl (.pair (.pair (.int .i64) (.int .i64)) (.int .i64))), (8, .int .i64)], [(.slot 4, 20000, .box 30 [.val k29]), (.slot 6, 20001, .box 25 [.own (.row 48 k47), .own (.row 56 k55)]), (.slot 7, 20002, .box 25 [.own (.row 48 k47), .own (.row 56 k55)])], [], []⟩
def sh100_0 : Shape := ⟨[(0, .sl (.pair (.pair (.int .i64) (.int .i64)) (.int .i64))), (7, .int .i64), (9, .int .i64)], [(.slot 5, 20000, .box 32 [.val k31])], [(8, 31000, (.row 32 (.pair (.pair (.int .i64) (.int .i64)) (.int .i64))))], []⟩
def sh101_0 : Shape := ⟨[(0, .sl (.pair (.pair (.pair (.int .i64) (.int .i64)) (.int .i64)) (.pair (.pair (.int .i64) (.int .i64)) (.int .i64)))), (6, .int .i64)], [(.slot 3, 20000, .box 32 [.val k31]), (.slot 4, 20001, .box 32 [.val k31])], [], []⟩
def sh102_0 : Shape := ⟨[(0, .sl (.pair (.pair (.int .i64) (.int .i64)) (.int .i64))), (6, .int .i64)], [(.slot 3, 20000, .box 32 [.val k31])], [(5, 31000, (.row 32 (.pair (.pair (.int .i64) (.int .i64)) (.int .i64))))], []⟩
def sh105_0 : Shape := ⟨[(5, .int .i64), (6, .int .i64)], [(.slot 2, 20000, .box 25 [.val k24]), (.slot 3, 20001, .box 32 [.val k31])], [], []⟩
def sh105_1 : Shape := ⟨[(5, .int .i64), (6, .int .i64), (7, .int .i64)], [(.slot 2, 20000, .box 25 [.val k24]), (.slot 3, 20001, .box 32 [.val k31])], [], []⟩
def sh117_0 : Shape := ⟨[(7, .int .i64)], [(.slot 0, 1000, .box 109 [.own (.row 48 k47), .own (.row 56 k55), .val (.sl k102)]), (.slot 3, 20001, .box 32 [.val k31]), (.slot 4, 20002, .box 32 [.val k31]), (.slot 5, 20003, .box 32 [.val k31])], [], []⟩
def sh118_0 : Shape := ⟨[(12, .int .i64), (13, .int .i64)], [(.slot 0, 1000, .box 109 [.own (.row 48 k47), .own (.row 56 k55), .val (.sl k102)]), (.slot 3, 20001, .box 32 [.val k31])], [], []⟩
def sh132_0 : Shape := ⟨[(12, .int .i64), (13, .int .i64)], [(.slot 2, 20000, .box 28 [.val k27]), (.slot 3, 20001, .box 32 [.val k31]), (.slot 4, 20002, .box 32 [.val k31])], [], []⟩
def sh134_0 : Shape := ⟨[(0, .sl (.pair (.pair (.int .i64) (.int .i64)) (.int .i64))), (7, .int .i64), (8, .int .i64)], [(.slot 3, 20000, .box 32 [.val k31])], [], []⟩
def sh143_0 : Shape := ⟨[(0, .sl (.sl (.pair (.pair (.int .i64) (.int .i64)) (.int .i64)))), (3, .int .i64), (9, .sl (.sl (.pair (.pair (.int .i64) (.int .i64)) (.int .i64)))), (10, .int .i64), (11, .int .i64)], [], [], []⟩
def sh143_1 : Shape := ⟨[(25, .sl (.sl (.pair (.pair (.int .i64) (.int .i64)) (.int .i64)))), (26, .int .i64), (27, .int .i64)], [], [(6, 31000, (.row 32 (.pair (.pair (.int .i64) (.int .i64)) (.int .i64))))], []⟩
def sh144_0 : Shape := ⟨[(3, .int .i64), (6, .sl (.int .i64)), (7, .int .i64), (8, .int .i64)], [], [], []⟩
def sh151_0 : Shape := ⟨[(9, .sl (.pair (.pair (.int .i64) (.int .i64)) (.pair (.sl (.pair (.pair (.int .i64) (.int .i64)) (.int .i64))) (.pair .str (.int .i64))))), (10, .int .i64), (11, .int .i64)], [(.slot 3, 20000, .box 32 [.val k31]), (.slot 4, 20001, .box 30 [.val k29])], [], []⟩
def sh166_0 : Shape := ⟨[(12, .int .i64), (13, .int .i64)], [(.slot 1, 20000, .box 25 [.val k24]), (.slot 4, 20001, .box 183 [.own (.map k31 .bool)])], [(3, 31000, (.row 46 (.sl k31))), (11, 31001, (.row 32 (.pair (.pair (.int .i64) (.int .i64)) (.int .i64))))], []⟩
def sh171_0 : Shape := ⟨[(8, .sl (.pair (.pair (.int .i64) (.int .i64)) (.pair .str (.int .i64)))), (9, .int .i64), (10, .int .i64)], [], [(3, 31000, (.row 32 k31))], []⟩
def sh173_0 : Shape := ⟨[(11, .int .i64), (12, .int .i64)], [(.slot 1, 20000, .box 25 [.val k24])], [(3, 31000, (.map (.int .i64) (.int .i64))), (4, 31001, (.row 124 (.sl k29))), (10, 31002, (.row 3 (.int .i64)))], []⟩
def sh177_0 : Shape := ⟨[(18, .sl (.pair (.pair (.int .i64) (.int .i64)) (.pair (.sl (.pair (.pair (.int .i64) (.int .i64)) (.int .i64))) (.pair .str (.int .i64))))), (19, .int .i64), (20, .int .i64)], [], [(3, 31000, (.row 3 (.int .i64))), (4, 31001, (.map (.pair (.pair (.int .i64) (.int .i64)) (.int .i64)) (.int .i64)))], []⟩
def sh177_1 : Shape := ⟨[(5, .int .i64), (18, .sl (.pair (.pair (.int .i64) (.int .i64)) (.pair (.sl (.pair (.pair (.int .i64) (.int .i64)) (.int .i64))) (.pair .str (.int .i64))))), (19, .int .i64), (20, .int .i64), (30, .sl (.pair (.pair (.int .i64) (.int .i64)) (.int .i64))), (31, .int .i64), (32, .int .i64)], [], [(3, 31000, (.row 3 (.int .i64))), (4, 31001, (.map (.pair (.pair (.int .i64) (.int .i64)) (.int .i64)) (.int .i64)))], []⟩
def sh177_2 : Shape := ⟨[(4, .mp (.pair (.pair (.int .i64) (.int .i64)) (.int .i64)) (.int .i64))], [], [(3, 31000, (.row 3 (.int .i64))), (42, 31001, (.iter (.pair (.pair (.int .i64) (.int .i64)) (.int .i64)) (.int .i64)))], []⟩
def sh177_3 : Shape := ⟨[(61, .int .i64), (62, .int .i64)], [], [(3, 31000, (.row 3 (.int .i64))), (13, 31001, (.row 3 (.int .i64)))], []⟩
def sh179_0 : Shape := ⟨[(11, .sl (.pair (.pair (.int .i64) (.int .i64)) (.pair (.sl (.pair (.pair (.int .i64) (.int .i64)) (.int .i64))) (.pair .str (.int .i64))))), (12, .int .i64), (13, .int .i64)], [(.slot 3, 20000, .box 32 [.val k31]), (.slot 4, 20001, .box 32 [.val k31])], [], []⟩
def sh181_0 : Shape := ⟨[(1, .int .i64)], [], [(0, 1000, (.row 3 (.int .i64)))], []⟩
def sh127125_0 : Shape := ⟨[(0, .sl (.pair (.pair (.int .i64) (.int .i64)) (.pair (.sl (.pair (.pair (.int .i64) (.int .i64)) (.int .i64))) (.pair .str (.int .i64))))), (8, .int .i64), (9, .int .i64), (10, .int .i64)], [(.slot 4, 20000, .box 30 [.val k29])], [], [(2, 126, [])]⟩
def sh139137_0 : Shape := ⟨[(0, .sl (.pair (.pair (.int .i64) (.int .i64)) (.pair .str (.int .i64)))), (8, .int .i64), (9, .int .i64), (10, .int .i64)], [(.slot 4, 20000, .box 30 [.val k29])], [], [(2, 138, [])]⟩
def sh143141_0 : Shape := ⟨[(0, .sl (.pair (.pair (.int .i64) (.int .i64)) (.int .i64))), (6, .int .i64)], [(.slot 4, 20000, .box 32 [.val k31]), (.slot 5, 20001, .box 32 [.val k31])], [], [(1, 142, [])]⟩
def sh151149_0 : Shape := ⟨[(11, .sl (.pair (.pair (.int .i64) (.int .i64)) (.pair (.sl (.pair (.pair (.int .i64) (.int .i64)) (.int .i64))) (.pair .str (.int .i64))))), (12, .int .i64), (13, .int .i64)], [(.slot 5, 20000, .box 30 [.val k29]), (.slot 6, 20001, .box 48 [.val (.int .i64), .val (.int .i64), .own (.row 32 k31), .val .str, .val (.int .i64)])], [], [(1, 150, [])]⟩
def sh156154_0 : Shape := ⟨[(0, .sl (.pair (.pair (.pair (.int .i64) (.int .i64)) (.int .i64)) (.pair (.pair (.int .i64) (.int .i64)) (.int .i64)))), (8, .int .i64), (9, .int .i64), (10, .int .i64)], [(.slot 4, 20000, .box 32 [.val k31])], [], [(2, 155, [])]⟩
def sh164162_0 : Shape := ⟨[(0, .sl (.pair (.pair (.pair (.int .i64) (.int .i64)) (.int .i64)) (.pair (.pair (.int .i64) (.int .i64)) (.int .i64)))), (7, .int .i64), (8, .int .i64)], [(.cap 1 0, 1000, .box 32 [.val k31])], [], [(1, 163, [1000])]⟩
def sh166164_0 : Shape := ⟨[(5, .int .i64), (8, .sl (.pair (.pair (.int .i64) (.int .i64)) (.pair (.sl (.pair (.pair (.int .i64) (.int .i64)) (.int .i64))) (.pair .str (.int .i64))))), (9, .int .i64), (10, .int .i64)], [], [], [(1, 165, [])]⟩
def ans : List (Nat × List (Nat × Shape)) := [(9, [(5, sh9_0)]), (10, [(4, sh10_0)]), (11, [(8, sh11_0)]), (17, [(3, sh17_0)]), (18, [(2, sh18_0)]), (20, [(2, sh20_0)]), (21, [(2, sh21_0)]), (22, [(6, sh22_0)]), (24, [(2, sh24_0)]), (27, [(4, sh27_0), (12, sh27_1)]), (28, [(2, sh28_0)]), (31, [(5, sh31_0)]), (32, [(4, sh32_0)]), (35, [(5, sh35_0)]), (38, [(3, sh38_0)]), (39, [(2, sh39_0)]), (41, [(4, sh41_0)]), (44, [(3, sh44_0)]), (46, [(4, sh46_0)]), (47, [(3, sh47_0), (8, sh47_1)]), (51, [(18, sh51_0)]), (52, [(4, sh52_0), (12, sh52_1)]), (53, [(4, sh53_0)]), (55, [(2, sh55_0)]), (56, [(3, sh56_0), (7, sh56_1), (10, sh56_2)]), (57, [(4, sh57_0)]), (58, [(4, sh58_0)]), (59, [(3, sh59_0)]), (60, [(3, sh60_0)]), (71, [(4, sh71_0)]), (73, [(7, sh73_0)]), (77, [(3, sh77_0), (9, sh77_1)]), (82, [(3, sh82_0), (7, sh82_1)]), (83, [(2, sh83_0)]), (84, [(2, sh84_0), (9, sh84_1), (15, sh84_2), (18, sh84_3)]), (85, [(3, sh85_0)]), (88, [(2, sh88_0)]), (92, [(8, sh92_0)]), (93, [(6, sh93_0), (11, sh93_1)]), (95, [(19, sh95_0)]), (98, [(2, sh98_0)]), (99, [(3, sh99_0)]), (100, [(6, sh100_0)]), (101, [(2, sh101_0)]), (102, [(3, sh102_0)]), (105, [(3, sh105_0), (6, sh105_1)]), (117, [(3, sh117_0)]), (118, [(2, sh118_0)]), (132, [(2, sh132_0)]), (134, [(2, sh134_0)]), (143, [(3, sh143_0), (11, sh143_1)]), (144, [(3, sh144_0)]), (151, [(2, sh151_0)]), (166, [(4, sh166_0)]), (171, [(3, sh171_0)]), (173, [(4, sh173_0)]), (177, [(4, sh177_0), (8, sh177_1), (14, sh177_2), (21, sh177_3)]), (179, [(2, sh179_0)]), (181, [(1, sh181_0)]), (127125, [(3, sh127125_0)]), (139137, [(3, sh139137_0)]), (143141, [(5, sh143141_0)]), (151149, [(2, sh151149_0)]), (156154, [(3, sh156154_0)]), (164162, [(2, sh164162_0)]), (166164, [(3, sh166164_0)])]
def An (f : FuncId) (key : Nat) : Option Shape := (ans.find? (fun p => p.1 == f)).bind fun p => (p.2.find? (fun q => q.1 == key)).map (fun q => q.2)
abbrev JT (g : Sig) := (sh : Shape) → List Item → sh.T → Option g.B
noncomputable def nfE (f : FuncId) (g : Sig) (fn : Func) (F : FT) (J : JT g) (x : g.A) : Option g.B := execItems Tryz.prog Eqs Sg F fn.ntmps (An f) J (retOf Tryz.prog g fn) fuel [.code (fn.body.getD .skip)] (entry g x)
noncomputable def nlE (f j : Nat) (g : Sig) (fn : Func) (sh : Shape) (F : FT) (J : JT g) (x : sh.T) : Option g.B := execItems Tryz.prog Eqs Sg F fn.ntmps (An f) J (retOf Tryz.prog g fn) fuel (round (seg Tryz.prog (f % 1000) j)) (fromHead sh x)
end Go.Vs

set_option linter.unusedVariables false
namespace Go.Vs
open Go.Proofs
variable {G : (f : FuncId) → (g : Sig) → Option (g.A → Option g.B)}
noncomputable abbrev FX (G : (f : FuncId) → (g : Sig) → Option (g.A → Option g.B)) : FT := Fix Tryz.prog Eqs Sg An G
noncomputable abbrev LX (G : (f : FuncId) → (g : Sig) → Option (g.A → Option g.B)) (f : FuncId) (g : Sig) (fn : Func) : JT g := Lp Tryz.prog Eqs Sg An G f g fn
theorem fx_of {f : FuncId} {g : Sig} {fn : Func} {x : g.A} {y : g.B} (hG : G f g = none) (hb : body Tryz.prog (f % 1000) = some (fn, fn.body.getD .skip)) (hc : (decide (g.ps.length ≤ fn.ntmps) && decide (g.bs.length ≤ 8)) = true)
    (h : nfE f g fn (FX G) (LX G f g fn) x = some y) : FX G f g x = some y := Fix_run hG hb hc h
theorem lx_of {f j : Nat} {g : Sig} {fn : Func} {sh : Shape} {x : sh.T} {y : g.B} (hs : (match seg Tryz.prog (f % 1000) j with | .inLoop _ :: _ => true | _ => false) = true)
    (h : nlE f j g fn sh (FX G) (LX G f g fn) x = some y) : LX G f g fn sh (seg Tryz.prog (f % 1000) j) x = some y := by
  unfold nlE at h
  generalize seg Tryz.prog (f % 1000) j = s at hs h ⊢
  split at hs
  · exact Lp_run h
  · cases hs
end Go.Vs
