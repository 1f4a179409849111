/- The value semantics is sound, operation by operation. -/
import Derived.Test.YtpldhjjpeldkaaaGreatEngineA
import Derived.Laws.StructEq
import Derived.Laws.Slices
import Derived.Laws.Strings
import Derived.MapKept

namespace Go.Vs

variable {P : Program} {Z Z' : Nat → Prop} {ψ ψ' : Nat → Value} {h h' : Hp} {w w' : World} {B0 : Nat} {O : Nat → Prop} {N : Nat → Prop}

def Eff.hp (h : Hp) : Eff → Hp
  | .val _ => h
  | .new _ os => fun i => match Heap.get os i with
    | some o => some o
    | none => h i
  | .wr _ h' => h'.get
theorem get_single (id : Nat) (o : Ob) (h : Hp) : (fun i => match Heap.get [(id, o)] i with | some o => some o | none => h i) = upd h id (some o) := by
  funext i
  simp only [Heap.get, upd]
  by_cases e : i = id
  · subst e; simp
  · rw [if_neg (fun x => e x.symm), if_neg e]
theorem get_set (hh : Heap) (id : Nat) (o : Ob) : (hh.set id o).get = upd hh.get id (some o) := by
  funext i
  by_cases e : i = id
  · subst e; rw [Heap.get_set_self, upd_self]
  · rw [Heap.get_set_ne e, upd_ne _ _ e]
theorem get_del (hh : Heap) (id : Nat) : (hh.del id).get = upd hh.get id none := by
  funext i
  by_cases e : i = id
  · subst e; rw [Heap.get_del_self, upd_self]
  · rw [Heap.get_del_ne e, upd_ne _ _ e]
theorem get_cons (hh : Heap) (id : Nat) (o : Ob) : Heap.get ((id, o) :: hh) = upd hh.get id (some o) := by
  funext i
  simp only [Heap.get, upd]
  by_cases e : i = id
  · subst e; simp
  · rw [if_neg (fun x => e x.symm), if_neg e]

/-- What an operation comes to, as the machine runs it. -/
def Done (P : Program) (ρC : Operand → Value) (o : Oper) (Z : Nat → Prop) (ψ : Nat → Value) (h : Hp) (w : World) (B0 : Nat) (O N : Nat → Prop) (e : Eff) : Prop :=
  ∃ V w' Z' ψ', ((execOp ρC o).run P w = .ok (.value V) w' ∨ ((execOp ρC o).run P w = .ok .skip w' ∧ V = undef)) ∧ Next Z ψ h w B0 O N Z' ψ' (e.hp h) w' ∧ Rep Z' ψ' (e.hp h) w' e.v V

/-- A value, the world as it was. -/
theorem Done.val {ρC : Operand → Value} {o : Oper} {x : AV} (g : Good Z ψ h w B0 O) {V : Value} (hr : (execOp ρC o).run P w = .ok (.value V) w) (hx : Rep Z ψ h w x V) : Done P ρC o Z ψ h w B0 O N (.val x) :=
  ⟨V, w, Z, ψ, .inl hr, Next.refl g, hx⟩

theorem row_elem {ty : TypeId} {k : K} {xs : List k.T} {id n : Nat} {x : k.T} (g : Good Z ψ h w B0 O) (hg : h id = some (.own (.row ty k) xs)) (hx : xs[n]? = some x) :
    ∃ gg us, blk (ψ id) = gg ∧ RepK Z w k x us ∧ ∀ (j : Nat) u, us[j]? = some u → w.cell? ⟨gg, n * k.sz + j, none⟩ = some u := by
  obtain ⟨vs, ho, hv⟩ := g.row id (.row ty k) xs hg
  have hn : n < xs.length := (List.getElem?_eq_some_iff.1 hx).1
  obtain ⟨hl, e⟩ := ho
  rcases e with ⟨h0, _⟩ | ⟨gg, cap, cur, e1, _, e3, _, _, _, e7⟩
  · omega
  · refine ⟨gg, _, by rw [e1]; rfl, hv n x hx, fun j u hu => ?_⟩
    rw [List.getElem?_take] at hu
    split at hu
    · rw [List.getElem?_drop, ← e7, List.getElem?_take] at hu
      split at hu
      · simp only [World.cell?, e3]; simpa using hu
      · cases hu
    · cases hu

theorem load_sound {hh : Heap} (g : Good Z ψ h w B0 O) (hsub : ∀ id o, hh.get id = some o → h id = some o) {t : TypeId} {a : AV} {v : Value} {e : Eff} (hv : Rep Z ψ h w a v) (he : opLoad P hh t a some = some e) :
    ∃ x V, e = .val x ∧ (Instr.loadAt t v).run P w = .ok V w ∧ Rep Z ψ h w x V := by
  unfold opLoad at he
  split at he
  · rename_i id s i off
    simp only [Rep] at hv
    obtain ⟨a, rfl, ha⟩ := hv
    split at he
    · rename_i ty cs hg
      have hg' := hsub _ _ hg
      have ha' := ha (by rw [hg']; simp)
      obtain ⟨gg, vs, e1, e2, e3, e4⟩ := g.box id ty cs hg'
      split at he
      · rename_i hi
        subst hi
        split at he
        · rename_i x hx
          cases he
          rw [e1] at ha'
          simp only [blk, Nat.zero_mul, Nat.zero_add] at ha'
          subst ha'
          obtain ⟨V, h1, h2⟩ := load_cells (a := ⟨gg, off, none⟩) (e3.drop off) (fun j u hu => by
            rw [addr_plain]; simp only [World.cell?, e2]; rw [List.getElem?_drop] at hu; simpa using hu) hx
          exact ⟨x, V, rfl, h1, h2⟩
        · cases he
      · cases he
    · rename_i ty kk xs hg
      have hg' := hsub _ _ hg
      have ha' := ha (by rw [hg']; simp)
      split at he
      · rename_i hs
        subst hs
        obtain ⟨x, hx, he⟩ := Option.bind_eq_some_iff.1 he
        split at he
        · rename_i y hy
          cases he
          obtain ⟨gg, us, h1, h2, h3⟩ := row_elem g hg' hx
          rw [h1] at ha'; subst ha'
          obtain ⟨V, h4, h5⟩ := load_cells (a := ⟨gg, i * kk.sz + off, none⟩) ((enc_rep (ψ := ψ) (h := h) h2).drop off) (fun j u hu => by
            rw [addr_plain, Nat.add_assoc]; exact h3 _ _ (by rw [List.getElem?_drop] at hu; exact hu)) hy
          exact ⟨y, V, rfl, h4, h5⟩
        · cases he
      · cases he
    · cases he
  · rename_i kk x off
    split at he
    · rename_i y hy
      cases he
      simp only [Rep] at hv
      obtain ⟨a, us, rfl, _, h2, h3⟩ := hv
      obtain ⟨V, h4, h5⟩ := load_cells ((enc_rep (ψ := ψ) (h := h) h2).drop off) (fun j u hu => h3 j u (by rw [List.getElem?_drop] at hu; exact hu)) hy
      exact ⟨y, V, rfl, h4, h5⟩
    · cases he
  · cases he

theorem under_of_elem {t e : TypeId} (he : elemT P t = some e) : P.underlying t = some (.slice e) := by
  unfold elemT at he
  split at he
  · cases he; assumption
  · cases he
theorem run_indexAt_s {t e : TypeId} (ht : P.underlying t = some (.slice e)) {i : TypeInfo} (hi : P.info? e = some i) (a : Addr) (n c : Nat) (k : IntKind) (j : Int) (h0 : 0 ≤ j) (h1 : j < n) :
    (Instr.indexAt t (.slice (some a) n c) (.int k j)).run P w = .ok (.pointer (some (a.add (j.toNat * P.cellsOf e)))) w := by
  simp [Instr.indexAt, asIntOf, run_underlying ht, h0, h1, run_sizeOf' hi]

theorem getI_spec {α : Type} {xs : List α} {i : Int} {x : α} (hx : getI xs i = some x) : 0 ≤ i ∧ i < xs.length ∧ xs[i.toNat]? = some x := by
  unfold getI at hx
  split at hx
  · rename_i h0
    have := (List.getElem?_eq_some_iff.1 hx).1
    exact ⟨h0, by omega, hx⟩
  · cases hx

theorem indexAddr_sound {hh : Heap} (g : Good Z ψ h w B0 O) (hsub : ∀ id o, hh.get id = some o → h id = some o) {t : TypeId} {x i : AV} {v u : Value} {e : Eff} (hv : Rep Z ψ h w x v) (hu : Rep Z ψ h w i u) (he : opIndexAddr P hh t x i some = some e) :
    ∃ y V, e = .val y ∧ (Instr.indexAt t v u).run P w = .ok V w ∧ Rep Z ψ h w y V := by
  unfold opIndexAddr at he
  split at he
  · cases he
  · rename_i et het
    have ht := under_of_elem het
    · skip
      split at he
      · rename_i ex kk' xs ik n
        simp only [Rep] at hv hu
        subst hu
        split at he
        · rename_i hs
          obtain ⟨y, hy, he⟩ := Option.bind_eq_some_iff.1 he
          cases he
          obtain ⟨h0, h1, h2⟩ := getI_spec hy
          obtain ⟨hk, _⟩ := hv
          simp only [RepK] at hk
          obtain ⟨v', hv', A, c, rfl, _, _, hel⟩ := hk
          cases hv'
          obtain ⟨a, us, rfl, hz, hr, hc⟩ := hel _ _ h2
          have hi : ∃ i, P.info? et = some i := by
            cases hi : P.info? et with
            | some i => exact ⟨i, rfl⟩
            | none => exfalso; have := kk'.sz_pos; simp [Program.cellsOf, hi] at hs; omega
          obtain ⟨inf, hi⟩ := hi
          refine ⟨_, _, rfl, run_indexAt_s ht hi a xs.length c ik n h0 h1, ?_⟩
          simp only [Rep]
          refine ⟨_, us, rfl, by rw [addr_block]; exact hz, hr, fun j u hu => ?_⟩
          rw [addr_add, hs]; exact hc j u (by simpa using hu)
        · cases he
      · rename_i id ik n
        split at he
        · rename_i ty kk' xs hg
          have hg' := hsub _ _ hg
          split at he
          · rename_i hs
            cases hcond : (decide (0 ≤ n) && decide (n < (xs.length : Int))) with
            | false => rw [hcond] at he; cases he
            | true =>
              rw [hcond] at he
              cases he
              simp only [Bool.and_eq_true, decide_eq_true_eq] at hcond
              simp only [Rep] at hv hu
              subst hu
              have hvv := hv.2 (by rw [hg']; simp)
              obtain ⟨vs, ⟨_, e⟩, _⟩ := g.row id (.row ty kk') xs hg'
              rcases e with ⟨h0, _⟩ | ⟨gg, cap, cur, e1, _, e3, _⟩
              · omega
              · have hi : ∃ i, P.info? et = some i := by
                  cases hi : P.info? et with
                  | some i => exact ⟨i, rfl⟩
                  | none => exfalso; have := kk'.sz_pos; simp [Program.cellsOf, hi] at hs; omega
                obtain ⟨inf, hi⟩ := hi
                rw [hvv, e1]
                refine ⟨_, _, rfl, run_indexAt_s ht hi _ xs.length cap ik n hcond.1 hcond.2, ?_⟩
                simp only [Rep]
                refine ⟨_, rfl, fun _ => ?_⟩
                rw [e1, hs, addr_plain]; simp [blk]
          · cases he
        · cases he
      · cases he

theorem info_of_cells {t : TypeId} (h : P.cellsOf t ≠ 0) : ∃ i, P.info? t = some i := by
  cases hi : P.info? t with
  | some i => exact ⟨i, rfl⟩
  | none => exact absurd (by simp [Program.cellsOf, hi]) h
theorem run_fieldAt_s {t : TypeId} {f n : Nat} {ft : TypeId} (hf : fieldOff P t f = some (n, ft)) (hc : P.cellsOf ft ≠ 0) (a : Addr) :
    (Instr.fieldAt t (.pointer (some a)) f).run P w = .ok (.pointer (some (a.add n))) w := by
  unfold fieldOff at hf
  split at hf
  · rename_i fs ht
    obtain ⟨fd, hfd, he⟩ := Option.map_eq_some_iff.1 hf
    cases he
    obtain ⟨i, hi⟩ := info_of_cells hc
    have hs := run_sizeOf' (P := P) (w := w) hi
    simp only [Instr.fieldAt, Sem.run_bind, run_underlying ht, Result.andThen_ok, hfd, Instr.sureAddr, Sem.run_pure, fieldPlace, hs]
    rw [if_neg hc]
    rfl
  · cases hf
theorem fieldAddr_ref {t : TypeId} {f n : Nat} {ft : TypeId} (hf : fieldOff P t f = some (n, ft)) (hc : P.cellsOf ft ≠ 0) {id s i off : Nat} {v : Value} (hv : Rep Z ψ h w (.ref id s i off) v) :
    ∃ V, (Instr.fieldAt t v f).run P w = .ok V w ∧ Rep Z ψ h w (.ref id s i (off + n)) V := by
  simp only [Rep] at hv ⊢
  obtain ⟨a, rfl, ha⟩ := hv
  refine ⟨_, run_fieldAt_s hf hc a, _, rfl, fun hid => ?_⟩
  rw [ha hid, addr_plain, Nat.add_assoc]
theorem fieldAddr_fp {t : TypeId} {f n : Nat} {ft : TypeId} (hf : fieldOff P t f = some (n, ft)) (hc : P.cellsOf ft ≠ 0) {k : K} {x : k.T} {off : Nat} {v : Value} (hv : Rep Z ψ h w (.fp k x off) v) :
    ∃ V, (Instr.fieldAt t v f).run P w = .ok V w ∧ Rep Z ψ h w (.fp k x (off + n)) V := by
  simp only [Rep] at hv ⊢
  obtain ⟨a, us, rfl, hz, hr, hcell⟩ := hv
  refine ⟨_, run_fieldAt_s hf hc a, _, us, rfl, by rw [addr_block]; exact hz, hr, fun j u hu => ?_⟩
  rw [addr_add]
  exact hcell (n + j) u (by rw [← Nat.add_assoc]; exact hu)

/-- A field of a value. -/
theorem field_sound {t ft : TypeId} {f n : Nat} (hf : fieldOff P t f = some (n, ft)) {cs : List AV} {x : AV} {v : Value} (hv : Rep Z ψ h w (.agg cs) v) (hx : fromCells P ft (cs.drop n) = some x) :
    ∃ V, (Instr.field t v f).run P w = .ok V w ∧ Rep Z ψ h w x V := by
  simp only [Rep] at hv
  obtain ⟨vs, rfl, hl⟩ := hv
  have hd := hl.drop n
  have hlen := hd.length
  unfold fieldOff at hf
  split at hf
  · rename_i fs ht
    obtain ⟨fd, hfd, he⟩ := Option.map_eq_some_iff.1 hf
    cases he
    unfold fromCells at hx
    split at hx
    · rename_i hb
      split at hx
      · rename_i hle
        cases hx
        obtain ⟨i, hi⟩ := info_of_agg hb
        refine ⟨.agg (vs.extract fd.offset (fd.offset + P.cellsOf fd.type)), ?_, ?_⟩
        · simp [Instr.field, run_underlying ht, hfd, asAgg, part, run_isAggOf hb, run_sizeOf' hi]
        · simp only [Rep]
          refine ⟨_, rfl, ?_⟩
          rw [Array.toList_extract, List.extract_eq_take_drop, Nat.add_sub_cancel_left]
          exact hd.take _
      · cases hx
    · rename_i hb
      split at hx
      · rename_i c r hcr
        cases hx
        rw [hcr] at hd
        simp only [RepL] at hd
        obtain ⟨u, us, hu, h1, _⟩ := hd
        refine ⟨u, ?_, h1⟩
        have hg : vs[fd.offset]? = some u := by
          have : (vs.toList.drop fd.offset)[0]? = some u := by rw [hu]; rfl
          rw [List.getElem?_drop] at this; simpa using this
        simp [Instr.field, run_underlying ht, hfd, asAgg, part, run_isAggOf hb, hg]
      · cases hx
    · cases hx
  · cases hf

theorem len_sound {hh : Heap} (g : Good Z ψ h w B0 O) (hsub : ∀ id o, hh.get id = some o → h id = some o) {x : AV} {v : Value} {e : Eff} (hv : Rep Z ψ h w x v) (he : opLen hh x some = some e) :
    ∃ n : Nat, e = .val (.int .i64 (n : Int)) ∧ ((∃ s, x = .str s ∧ v = .string s ∧ n = s.size) ∨ ∃ A c, v = .slice A n c) := by
  unfold opLen at he
  split at he
  · rename_i s hs
    cases he
    have hx : x = .str s := by
      cases x with
      | osl id => simp only [view1] at hs; split at hs <;> cases hs
      | str s' => simp only [view1] at hs; exact hs
      | _ => simp only [view1] at hs <;> cases hs
    subst hx
    simp only [Rep] at hv
    exact ⟨_, rfl, .inl ⟨s, rfl, hv, rfl⟩⟩
  · rename_i ex k xs hs
    cases he
    have hview := view1_rep (Z' := fun b => Z b ∨ Own ψ h b) (g.sub hsub) (fun b hb => .inl hb) (fun id b _ hne hb => .inr (by
      obtain ⟨o, ho⟩ := Option.ne_none_iff_exists'.1 hne
      exact ⟨id, by rw [hsub id o ho]; simp, hb⟩)) (hv.subH hsub)
    rw [hs] at hview
    simp only [Rep, RepK] at hview
    obtain ⟨⟨v', hv', A, c, rfl, _⟩, _⟩ := hview
    cases hv'
    exact ⟨_, rfl, .inr ⟨A, c, rfl⟩⟩
  · rename_i hs
    cases he
    have hx : x = .nils := by
      cases x with
      | osl id => simp only [view1] at hs; split at hs <;> cases hs
      | nils => rfl
      | _ => simp only [view1] at hs <;> cases hs
    subst hx
    simp only [Rep] at hv
    exact ⟨0, rfl, .inr ⟨_, _, hv⟩⟩
  · cases he

/-- Bounds, abstract and concrete. -/
def OptRep (Z : Nat → Prop) (ψ : Nat → Value) (h : Hp) (w : World) : Option AV → Option Value → Prop
  | none, none => True
  | some a, some v => Rep Z ψ h w a v
  | _, _ => False

theorem run_sliceBound_s (k : IntKind) (i : Int) (y : Nat) (code : BoundsCode) (h0 : 0 ≤ i) (h1 : i ≤ y) : (Instr.sliceBound (.int k i) y code).run P w = .ok i.toNat w := by
  simp [Instr.sliceBound, asIntOf, h0, h1]
theorem run_bounds {b : Bool} {n c : Nat} (hc : n ≤ c) {lo hi mx : Option AV} {lo' hi' mx' : Option Value} {l u : Int} (h1 : OptRep Z ψ h w lo lo') (h2 : OptRep Z ψ h w hi hi') (h3 : OptRep Z ψ h w mx mx')
    (hb : slBounds n lo hi = some (l, u)) (ho : okBounds n l u = true) (hm : mx = none ∨ (mx = some (.int .i64 u) ∧ hi ≠ none)) :
    (Instr.sliceBounds b n c lo' hi' mx').run P w = .ok (l.toNat, u.toNat, if mx = none then c else u.toNat) w := by
  simp only [okBounds, Bool.and_eq_true, decide_eq_true_eq] at ho
  obtain ⟨h4, h5, h6⟩ := ho
  have huc : u ≤ (c : Int) := by omega
  unfold slBounds at hb
  rcases hm with rfl | ⟨rfl, hne⟩
  · cases mx' with
    | some _ => exact h3.elim
    | none =>
      split at hb
      all_goals first | (cases hb; done) | skip
      · cases hb
        cases lo' with
        | some _ => exact h1.elim
        | none =>
          cases hi' with
          | some _ => exact h2.elim
          | none => simp [Instr.sliceBounds]
      · cases hb
        cases lo' with
        | none => exact h1.elim
        | some v =>
          simp only [OptRep, Rep] at h1
          subst h1
          cases hi' with
          | some _ => exact h2.elim
          | none => simp [Instr.sliceBounds, run_sliceBound_s .i64 l n _ h4 h5]
      · cases hb
        cases lo' with
        | some _ => exact h1.elim
        | none =>
          cases hi' with
          | none => exact h2.elim
          | some v =>
            simp only [OptRep, Rep] at h2
            subst h2
            cases b <;> simp [Instr.sliceBounds, run_sliceBound_s .i64 u c _ (by omega) huc]
      · cases hb
        cases lo' with
        | none => exact h1.elim
        | some v =>
          simp only [OptRep, Rep] at h1
          subst h1
          cases hi' with
          | none => exact h2.elim
          | some v =>
            simp only [OptRep, Rep] at h2
            subst h2
            have hx : l ≤ ((u.toNat : Nat) : Int) := by omega
            cases b <;> simp [Instr.sliceBounds, run_sliceBound_s .i64 u c _ (by omega) huc, run_sliceBound_s .i64 l u.toNat _ h4 hx]
  · cases mx' with
    | none => exact h3.elim
    | some m =>
      simp only [OptRep, Rep] at h3
      subst h3
      have huu : u ≤ ((u.toNat : Nat) : Int) := by omega
      have hx : l ≤ ((u.toNat : Nat) : Int) := by omega
      split at hb
      all_goals first | (cases hb; done) | skip
      · exact absurd rfl hne
      · exact absurd rfl hne
      · cases hb
        cases lo' with
        | some _ => exact h1.elim
        | none =>
          cases hi' with
          | none => exact h2.elim
          | some v =>
            simp only [OptRep, Rep] at h2
            subst h2
            cases b <;> simp [Instr.sliceBounds, run_sliceBound_s .i64 u c _ (by omega) huc, run_sliceBound_s .i64 u u.toNat _ (by omega) huu]
      · cases hb
        cases lo' with
        | none => exact h1.elim
        | some v =>
          simp only [OptRep, Rep] at h1
          subst h1
          cases hi' with
          | none => exact h2.elim
          | some v =>
            simp only [OptRep, Rep] at h2
            subst h2
            cases b <;> simp [Instr.sliceBounds, run_sliceBound_s .i64 u c _ (by omega) huc, run_sliceBound_s .i64 u u.toNat _ (by omega) huu, run_sliceBound_s .i64 l u.toNat _ h4 hx]

theorem slice_data {t e : TypeId} (ht : P.underlying t = some (.slice e)) {kk : K} (hsz : P.cellsOf e = kk.sz) {xs : List kk.T} {v : Value} (hr : RepK Z w (.sl kk) xs [v]) {lo hi mx : Option AV} {lo' hi' mx' : Option Value} {l u : Int}
    (h1 : OptRep Z' ψ h w lo lo') (h2 : OptRep Z' ψ h w hi hi') (h3 : OptRep Z' ψ h w mx mx') (hb : slBounds xs.length lo hi = some (l, u)) (ho : okBounds xs.length l u = true) (hm : mx = none ∨ (mx = some (.int .i64 u) ∧ hi ≠ none)) :
    ∃ V, (Instr.sliceAt t v lo' hi' mx').run P w = .ok V w ∧ RepK Z w (.sl kk) (cut xs l u) [V] ∧ (mx ≠ none → ∃ A c, V = .slice A c c) := by
  simp only [RepK] at hr
  obtain ⟨v', hv', A, c, rfl, hl, hn, hel⟩ := hr
  cases hv'
  have hrun := run_bounds (P := P) (w := w) (b := true) hl h1 h2 h3 hb ho hm
  simp only [okBounds, Bool.and_eq_true, decide_eq_true_eq] at ho
  obtain ⟨h4, h5, h6⟩ := ho
  obtain ⟨i, hi⟩ := info_of_cells (P := P) (t := e) (by have := kk.sz_pos; omega)
  generalize hmm : (if mx = none then c else u.toNat) = m at hrun
  have hmu : u.toNat ≤ m := by
    rcases hm with rfl | ⟨rfl, _⟩
    · simp at hmm; omega
    · simp at hmm; omega
  have hmc : m ≤ c := by
    rcases hm with rfl | ⟨rfl, _⟩
    · simp at hmm; omega
    · simp at hmm; omega
  have hcl : (cut xs l u).length = u.toNat - l.toNat := by
    unfold cut; rw [List.length_drop, List.length_take]; omega
  refine ⟨.slice (if m = l.toNat then A else A.map (·.add (l.toNat * P.cellsOf e))) (u.toNat - l.toNat) (m - l.toNat), ?_, ?_, ?_⟩
  · simp [Instr.sliceAt, Instr.slice, run_underlying ht, hrun, run_sizeOf' hi]
  · simp only [RepK]
    refine ⟨_, rfl, _, _, by rw [hcl], by rw [hcl]; omega, fun hA => ?_, fun j x hx => ?_⟩
    · split at hA
      · have := hn hA; omega
      · cases A with
        | none => have := hn rfl; omega
        | some a => cases hA
    · have hj : j < u.toNat - l.toNat := by rw [← hcl]; exact (List.getElem?_eq_some_iff.1 hx).1
      have hx' : xs[l.toNat + j]? = some x := by
        unfold cut at hx
        rw [List.getElem?_drop, List.getElem?_take, if_pos (by omega)] at hx
        exact hx
      obtain ⟨a, us, rfl, hz, hr, hc⟩ := hel _ _ hx'
      refine ⟨a.add (l.toNat * P.cellsOf e), us, by rw [if_neg (by omega)]; rfl, by rw [addr_block]; exact hz, hr, fun q y hy => ?_⟩
      rw [addr_add, hsz]
      have := hc q y hy
      rw [Nat.add_mul] at this
      rw [← Nat.add_assoc]; exact this
  · intro hne
    rcases hm with rfl | ⟨rfl, _⟩
    · exact absurd rfl hne
    · simp at hmm
      exact ⟨_, _, by rw [← hmm]⟩

theorem slice_sound {hh : Heap} (g : Good Z ψ h w B0 O) (hsub : ∀ id o, hh.get id = some o → h id = some o) {t e : TypeId} (ht : P.underlying t = some (.slice e)) {x : AV} {v : Value} {lo hi mx : Option AV} {lo' hi' mx' : Option Value} {ef : Eff}
    (hv : Rep Z ψ h w x v) (h1 : OptRep Z ψ h w lo lo') (h2 : OptRep Z ψ h w hi hi') (h3 : OptRep Z ψ h w mx mx') (hwr : ∀ y hw, ef = .wr y hw → hh.get = h) (he : opSlice hh (P.cellsOf e) x lo hi mx some = some ef) (hse : (P.info? e).isSome = true) :
    ∃ V Z', (Instr.sliceAt t v lo' hi' mx').run P w = .ok V w ∧ Next Z ψ h w B0 O N Z' ψ (ef.hp h) w ∧ Rep Z' ψ (ef.hp h) w ef.v V := by
  unfold opSlice at he
  split at he
  · -- nil
    simp only [Rep] at hv
    subst hv
    split at he
    · rename_i l u hb
      cases ho : okBounds 0 l u with
      | false => rw [ho] at he; cases he
      | true =>
        rw [ho] at he
        cases he
        have hrun := run_bounds (P := P) (w := w) (b := true) (Nat.le_refl 0) h1 h2 h3 hb ho (.inl rfl)
        simp only [okBounds, Bool.and_eq_true, decide_eq_true_eq] at ho
        have hl0 : l.toNat = 0 := by omega
        have hu0 : u.toNat = 0 := by omega
        obtain ⟨i, hi⟩ := Option.isSome_iff_exists.1 hse
        refine ⟨.slice none 0 0, Z, ?_, Next.refl g, by simp only [Eff.v, Rep]⟩
        rw [hl0, hu0] at hrun
        simp [Instr.sliceAt, Instr.slice, run_underlying ht, hrun, run_sizeOf' hi]
    · cases he
  · -- data
    rename_i ex kk xs
    simp only [Rep] at hv
    split at he
    · rename_i hsz
      split at he
      · rename_i l u hb
        split at he
        · cases ho : okBounds xs.length l u with
          | false => rw [ho] at he; cases he
          | true =>
            rw [ho] at he
            cases he
            obtain ⟨V, h4, h5, _⟩ := slice_data (P := P) ht hsz hv.1 h1 h2 h3 hb ho (.inl rfl)
            exact ⟨V, Z, h4, Next.refl g, by simp only [Eff.v, Eff.hp, Rep]; exact ⟨h5, by simp⟩⟩
        · rename_i m
          cases ho : (okBounds xs.length l u && (hi.isSome && decide (m = u))) with
          | false => rw [ho] at he; cases he
          | true =>
            rw [ho] at he
            cases he
            simp only [Bool.and_eq_true, decide_eq_true_eq] at ho
            obtain ⟨ho, hhi, rfl⟩ := ho
            obtain ⟨V, h4, h5, h6⟩ := slice_data (P := P) ht hsz hv.1 h1 h2 h3 hb ho (.inr ⟨rfl, by intro e; rw [e] at hhi; cases hhi⟩)
            exact ⟨V, Z, h4, Next.refl g, by simp only [Eff.v, Eff.hp, Rep]; exact ⟨h5, fun _ => h6 (by simp)⟩⟩
        · cases he
      · cases he
    · cases he
  · -- one's own
    rename_i id
    split at he
    · rename_i ty kk xs hg
      have hg' := hsub _ _ hg
      have hvv := hv
      simp only [Rep] at hvv
      have hvv2 := hvv.2 (by rw [hg']; simp)
      obtain ⟨vs, ho1, hv1⟩ := g.row id (.row ty kk) xs hg'
      let Z1 : Nat → Prop := fun b => Z b ∨ ob (ψ id) = some b
      have hd : RepK Z1 w (.sl kk) xs [v] := by rw [hvv2]; exact row_data ho1 hv1 (fun b hb => .inl hb) (fun b hb => .inr hb)
      have hgood : ∀ hw : Hp, hw = upd h id none → Next Z ψ h w B0 O N Z1 ψ hw w := by
        rintro hw rfl
        have hs : ∀ i o, upd h id none i = some o → h i = some o := fun i o hi => by
          by_cases e : i = id
          · subst e; rw [upd_self] at hi; cases hi
          · rwa [upd_ne _ _ e] at hi
        have gg := g.freeze hs (fun b hb => .inl hb) (fun b (hb : Z1 b) => hb.imp (fun h => h) (fun hb => ⟨id, by rw [hg']; simp, upd_self _ _ _, hb⟩))
        refine ⟨fun b hb => .inl hb, fun b hb => hb.imp (fun h => h) (fun hb => .inl ⟨id, by rw [hg']; simp, hb⟩), Keep.refl _ _ _, fun i hi => ?_, gg⟩
        obtain ⟨o, ho⟩ := Option.ne_none_iff_exists'.1 hi
        exact .inl ⟨by rw [hs i o ho]; simp, rfl⟩
      have h1' : OptRep Z ψ h w lo lo' := h1
      split at he
      · rename_i hsz
        split at he
        · rename_i l u hb
          split at he
          · cases ho : okBounds xs.length l u with
            | false => rw [ho] at he; cases he
            | true =>
              rw [ho] at he
              cases he
              have heq := hwr _ _ rfl
              obtain ⟨V, h4, h5, _⟩ := slice_data (P := P) ht hsz hd h1 h2 h3 hb ho (.inl rfl)
              exact ⟨V, Z1, h4, hgood _ (by simp only [Eff.hp]; rw [get_del, heq]), by simp only [Eff.v, Eff.hp, Rep]; exact ⟨h5, by simp⟩⟩
          · rename_i m
            cases ho : (okBounds xs.length l u && (hi.isSome && decide (m = u))) with
            | false => rw [ho] at he; cases he
            | true =>
              rw [ho] at he
              cases he
              have heq := hwr _ _ rfl
              simp only [Bool.and_eq_true, decide_eq_true_eq] at ho
              obtain ⟨ho, hhi, rfl⟩ := ho
              obtain ⟨V, h4, h5, h6⟩ := slice_data (P := P) ht hsz hd h1 h2 h3 hb ho (.inr ⟨rfl, by intro e; rw [e] at hhi; cases hhi⟩)
              exact ⟨V, Z1, h4, hgood _ (by simp only [Eff.hp]; rw [get_del, heq]), by simp only [Eff.v, Eff.hp, Rep]; exact ⟨h5, fun _ => h6 (by simp)⟩⟩
          · cases he
        · cases he
      · cases he
    · cases he
  · cases he
end Go.Vs

set_option linter.unusedSimpArgs false
set_option linter.unusedVariables false
namespace Go.Vs

variable {P : Program} {Z Z' : Nat → Prop} {ψ ψ' : Nat → Value} {h h' : Hp} {w w' : World} {B0 : Nat} {O : Nat → Prop} {N : Nat → Prop}

/-- '==' of a struct type is that of its kind. -/
def EqFact (P : Program) (t : TypeId) (k : K) : Prop :=
  ∀ (Z : Nat → Prop) (w : World) (x y : k.T) (xs ys : Array Value), RepK Z w k x xs.toList → RepK Z w k y ys.toList →
    (Op.equal t (.agg xs) (.agg ys)).run P w = .ok (eqT k x y) w ∧ (∀ (op : BinOp) (a b : Operand), (eqGuard op t a b (.agg xs) (.agg ys)).run P w = .ok () w) ∧ ∀ e : Bool, (Instr.checkKey e 10000 t (.agg xs)).run P w = .ok () w

theorem guard_int (op : BinOp) (t : TypeId) (a b : Operand) (k k' : IntKind) (x y : Int) : (eqGuard op t a b (.int k x) (.int k' y)).run P w = .ok () w := by cases op <;> simp [eqGuard]
theorem guard_str (op : BinOp) (t : TypeId) (a b : Operand) (x y : ByteArray) : (eqGuard op t a b (.string x) (.string y)).run P w = .ok () w := by cases op <;> simp [eqGuard]
theorem guard_bool (op : BinOp) (t : TypeId) (a b : Operand) (x y : Bool) : (eqGuard op t a b (.bool x) (.bool y)).run P w = .ok () w := by cases op <;> simp [eqGuard]
theorem guard_ptr (op : BinOp) (t : TypeId) (a b : Operand) (x y : Option Addr) : (eqGuard op t a b (.pointer x) (.pointer y)).run P w = .ok () w := by cases op <;> simp [eqGuard]

def plainV : AV → Value
  | .bool b => .bool b
  | .int k n => .int k n
  | .str s => .string s
  | _ => undef
theorem plain_int (k : IntKind) (n : Int) : Rep Z ψ h w (.int k n) (plainV (.int k n)) := by simp only [Rep, plainV]
theorem plain_bool (b : Bool) : Rep Z ψ h w (.bool b) (plainV (.bool b)) := by simp only [Rep, plainV]

theorem run_equal_ptr {t e : TypeId} (ht : P.underlying t = some (.pointer e)) (a : Option Addr) : (Op.equal t (.pointer a) (.pointer none)).run P w = .ok a.isNone w := by
  have key : ∀ d, (Op.equalIn (d + 1) t (.pointer a) (.pointer none)).run P w = .ok a.isNone w := fun d => by
    cases a <;> simp [Op.equalIn, run_underlying ht]
  exact key 9999
theorem run_binI {op : BinOp} {t : TypeId} {k : IntKind} {a b : Int} {v : AV} (hv : binI op k a b = some v) : ∃ V, (binOp op t (.int k a) (.int k b)).run P w = .ok V w ∧ Rep Z ψ h w v V := by
  cases op <;> simp only [binI] at hv <;> cases hv <;> first
    | (refine ⟨plainV (.int _ _), ?_, plain_int _ _⟩; simp [binOp, Op.intArith, Op.intCmp, plainV]; done)
    | (refine ⟨plainV (.bool _), ?_, plain_bool _⟩; simp [binOp, Op.intArith, Op.intCmp, plainV]; done)
    | (refine ⟨plainV (.int _ _), ?_, plain_int _ _⟩; simp only [binOp, plainV, ne_eq, not_true_eq_false, if_false]; rfl)

theorem bin_sound {Eqs : TypeId → Option K} (hEq : ∀ t k, Eqs t = some k → EqFact P t k) {op : BinOp} {t : TypeId} {xo yo : Operand} {x y : AV} {u v : Value} {e : Eff} (hu : Rep Z ψ h w x u) (hv : Rep Z ψ h w y v) (he : opBin P Eqs op t x y some = some e) :
    ∃ r V, e = .val r ∧ ((do eqGuard op t xo yo u v; binOp op t u v : Sem Value)).run P w = .ok V w ∧ Rep Z ψ h w r V := by
  unfold opBin at he
  split at he
  · rename_i k a k' b
    simp only [Rep] at hu hv
    subst hu; subst hv
    split at he
    · cases hb : decide (b < 0) with
      | true => rw [hb] at he; cases he
      | false =>
        rw [hb] at he; cases he
        have hb' : ¬ b < 0 := by simpa using hb
        exact ⟨_, plainV (.int _ _), rfl, by simp [guard_int, binOp, Op.shift, hb', plainV, shlI], plain_int _ _⟩
    · cases hb : decide (b < 0) with
      | true => rw [hb] at he; cases he
      | false =>
        rw [hb] at he; cases he
        have hb' : ¬ b < 0 := by simpa using hb
        exact ⟨_, plainV (.int _ _), rfl, by simp [guard_int, binOp, Op.shift, hb', plainV, shrI], plain_int _ _⟩
    split at he
    · rename_i hk
      subst hk
      simp only [Sem.run_bind, guard_int, Result.andThen_ok]
      split at he
      · cases hb : (b == 0) with
        | true => rw [hb] at he; cases he
        | false =>
          rw [hb] at he; cases he
          have hb' : b ≠ 0 := by simpa using hb
          exact ⟨_, plainV (.int _ _), rfl, by simp [binOp, Op.intDiv, hb', plainV], plain_int _ _⟩
      · cases hb : (b == 0) with
        | true => rw [hb] at he; cases he
        | false =>
          rw [hb] at he; cases he
          have hb' : b ≠ 0 := by simpa using hb
          exact ⟨_, plainV (.int _ _), rfl, by simp [binOp, Op.intDiv, hb', plainV], plain_int _ _⟩
      · split at he
        · rename_i v hv
          cases he
          obtain ⟨V, h1, h2⟩ := run_binI (P := P) (t := t) (w := w) (Z := Z) (ψ := ψ) (h := h) hv
          exact ⟨_, V, rfl, h1, h2⟩
        · cases he
    · cases he
  · rename_i a b
    simp only [Rep] at hu hv
    subst hu; subst hv
    simp only [Sem.run_bind, guard_str, Result.andThen_ok]
    cases op <;> simp only [binS] at he <;> first | (cases he; done) | (cases he; exact ⟨_, plainV (.bool _), rfl, by simp [binOp, Op.stringOp, ← beq_toListBytes, plainV], plain_bool _⟩)
  · rename_i a b
    simp only [Rep] at hu hv
    subst hu; subst hv
    simp only [Sem.run_bind, guard_bool, Result.andThen_ok]
    have key : (P.underlying t).map isBoolD = some true → P.underlying t = some .bool := fun hm => by
      obtain ⟨d, hd, he⟩ := Option.map_eq_some_iff.1 hm
      cases d <;> simp [isBoolD] at he
      exact hd
    split at he
    · rename_i hm
      cases he
      exact ⟨_, plainV (.bool _), rfl, by simp [binOp, Op.equal, Op.maxDepth, run_equalIn_bool' (P := P) w 9999 t a b (key hm), plainV], plain_bool _⟩
    · rename_i hm
      cases he
      exact ⟨_, plainV (.bool _), rfl, by simp [binOp, Op.equal, Op.maxDepth, run_equalIn_bool' (P := P) w 9999 t a b (key hm), plainV], plain_bool _⟩
    · cases he
  · rename_i a b
    split at he
    · cases he
    · rename_i k hk
      simp only [Rep] at hu hv
      obtain ⟨xs, rfl, hx⟩ := hu
      obtain ⟨ys, rfl, hy⟩ := hv
      split at he
      · rename_i x y hdx hdy
        cases he
        obtain ⟨h1, h2, _⟩ := hEq t k hk Z w x y xs ys (decOne_rep hdx hx) (decOne_rep hdy hy)
        exact ⟨_, plainV (.bool _), rfl, by simp only [Sem.run_bind, h2, Result.andThen_ok, binOp, h1, Sem.run_pure, plainV], plain_bool _⟩
      · rename_i x y hdx hdy
        cases he
        obtain ⟨h1, h2, _⟩ := hEq t k hk Z w x y xs ys (decOne_rep hdx hx) (decOne_rep hdy hy)
        exact ⟨_, plainV (.bool _), rfl, by simp only [Sem.run_bind, h2, Result.andThen_ok, binOp, h1, Sem.run_pure, plainV], plain_bool _⟩
      · cases he
  · simp only [Rep] at hu hv
    subst hu; subst hv
    have key : (P.underlying t).map isPtrD = some true → ∃ e, P.underlying t = some (.pointer e) := fun hm => by
      obtain ⟨d, hd, he⟩ := Option.map_eq_some_iff.1 hm
      cases d <;> simp [isPtrD] at he
      exact ⟨_, hd⟩
    simp only [Sem.run_bind, guard_ptr, Result.andThen_ok]
    split at he
    · rename_i hm
      cases he
      obtain ⟨et, ht⟩ := key hm
      exact ⟨_, plainV (.bool _), rfl, by simp only [binOp, Sem.run_bind, run_equal_ptr ht, Result.andThen_ok, Sem.run_pure, plainV, Option.isNone_none, Option.isNone_some, Bool.not_true, Bool.not_false], plain_bool _⟩
    · rename_i hm
      cases he
      obtain ⟨et, ht⟩ := key hm
      exact ⟨_, plainV (.bool _), rfl, by simp only [binOp, Sem.run_bind, run_equal_ptr ht, Result.andThen_ok, Sem.run_pure, plainV, Option.isNone_none, Option.isNone_some, Bool.not_true, Bool.not_false], plain_bool _⟩
    · cases he
  · simp only [Rep] at hu hv
    obtain ⟨a, rfl, _⟩ := hu
    subst hv
    have key : (P.underlying t).map isPtrD = some true → ∃ e, P.underlying t = some (.pointer e) := fun hm => by
      obtain ⟨d, hd, he⟩ := Option.map_eq_some_iff.1 hm
      cases d <;> simp [isPtrD] at he
      exact ⟨_, hd⟩
    simp only [Sem.run_bind, guard_ptr, Result.andThen_ok]
    split at he
    · rename_i hm
      cases he
      obtain ⟨et, ht⟩ := key hm
      exact ⟨_, plainV (.bool _), rfl, by simp only [binOp, Sem.run_bind, run_equal_ptr ht, Result.andThen_ok, Sem.run_pure, plainV, Option.isNone_none, Option.isNone_some, Bool.not_true, Bool.not_false], plain_bool _⟩
    · rename_i hm
      cases he
      obtain ⟨et, ht⟩ := key hm
      exact ⟨_, plainV (.bool _), rfl, by simp only [binOp, Sem.run_bind, run_equal_ptr ht, Result.andThen_ok, Sem.run_pure, plainV, Option.isNone_none, Option.isNone_some, Bool.not_true, Bool.not_false], plain_bool _⟩
    · cases he
  · cases he

theorem plain_one {a : AV} {v : Value} (hp : plainA a = true) (hr : Rep Z ψ h w a v) : v.oneCell' = true := by
  cases a with
  | no => cases hp
  | agg cs => cases hp
  | tup cs => cases hp
  | bool b => simp only [Rep] at hr; subst hr; rfl
  | int k n => simp only [Rep] at hr; subst hr; rfl
  | str s => simp only [Rep] at hr; subst hr; rfl
  | nilp => simp only [Rep] at hr; subst hr; rfl
  | nils => simp only [Rep] at hr; subst hr; rfl
  | ref id s i off => simp only [Rep] at hr; obtain ⟨a, rfl, _⟩ := hr; rfl
  | fp k x off => simp only [Rep] at hr; obtain ⟨a, us, rfl, _⟩ := hr; rfl
  | sl ex k xs => simp only [Rep, RepK] at hr; obtain ⟨⟨v', hv, A, c, rfl, _⟩, _⟩ := hr; cases hv; rfl
  | osl id => simp only [Rep] at hr; exact hr.1.2
  | mp kk vk es => simp only [Rep, RepK] at hr; obtain ⟨A, hv, _⟩ := hr; cases hv; rfl
  | fn f cap => simp only [Rep] at hr; obtain ⟨vs, rfl, _⟩ := hr; rfl
theorem plain_ones : ∀ {cs : List AV} {vs : List Value}, cs.all plainA = true → RepL Z ψ h w cs vs → ∀ u ∈ vs, u.oneCell' = true
  | [], _, _, hr, u, hu => by simp only [RepL] at hr; subst hr; simp at hu
  | c :: r, _, hp, hr, u, hu => by
    simp only [List.all_cons, Bool.and_eq_true] at hp
    simp only [RepL] at hr
    obtain ⟨v, us, rfl, h1, h2⟩ := hr
    rcases List.mem_cons.1 hu with rfl | hu
    · exact plain_one hp.1 h1
    · exact plain_ones hp.2 h2 u hu
theorem plain_no {a : AV} (hp : a.cells.all plainA = true) : a ≠ .no := by rintro rfl; simp [AV.cells, plainA] at hp

theorem noId_spec {id : Nat} : ∀ {cs : List AV}, noId id cs = true → AV.osl id ∉ cs
  | [], _ => by simp
  | c :: r, hn => by
    intro hm
    cases c with
    | osl i =>
      simp only [noId, Bool.and_eq_true, Bool.not_eq_true', beq_eq_false_iff_ne] at hn
      rcases List.mem_cons.1 hm with e | hm
      · cases e; exact hn.1 rfl
      · exact noId_spec hn.2 hm
    | _ =>
      simp only [noId] at hn
      rcases List.mem_cons.1 hm with e | hm
      · cases e
      · exact noId_spec hn hm

theorem store_sound {hh : Heap} (g : Good Z ψ hh.get w B0 O) {t : TypeId} {a x : AV} {u v : Value} {e : Eff} (hu : Rep Z ψ hh.get w a u) (hv : Rep Z ψ hh.get w x v) (he : opStore P hh t a x some = some e) :
    ∃ hw w' Z', e = .wr .no hw ∧ (Instr.storeAt t u v).run P w = .ok () w' ∧ Next Z ψ hh.get w B0 O N Z' ψ hw.get w' := by
  unfold opStore at he
  split at he
  · rename_i hc
    obtain ⟨hlen, hinf, hplain⟩ := hc
    obtain ⟨inf, hinf⟩ := Option.isSome_iff_exists.1 hinf
    have hvc := hv.cells (plain_no hplain)
    have hone := plain_ones hplain hvc
    have hcl := hvc.length
    simp only [Array.length_toList] at hcl
    split at he
    · rename_i id s i off
      simp only [Rep] at hu
      obtain ⟨a, rfl, ha⟩ := hu
      split at he
      · rename_i ty cs hg
        split at he
        · rename_i hc
          obtain ⟨rfl, hoff⟩ := hc
          cases he
          have ha' := ha (by rw [hg]; simp)
          obtain ⟨w', h1, h2⟩ := next_store_box (P := P) (N := N) g hg hinf hvc hone (by omega) hoff (a := a) (by rw [ha']; simp)
          exact ⟨_, w', Z, rfl, h1, by rw [get_set]; exact h2⟩
        · cases he
      · rename_i ty kk xs hg
        obtain ⟨y, hx, he2⟩ := Option.bind_eq_some_iff.1 he
        clear he
        split at he2
        · rename_i hc
          obtain ⟨rfl, hoff, hno⟩ := hc
          split at he2
          · rename_i z hz
            cases he2
            have ha' := ha (by rw [hg]; simp)
            have hid := noId_spec hno
            have gd := drops_good g x.cells
            have hgd : (drops hh x.cells).get id = some (.own (.row ty kk) xs) := by rw [drops_keep _ _ _ hid]; exact hg
            have hviews := views_rep (Z' := Zof Z ψ hh.get x.cells) g (fun b hb => .inl hb) (fun i b hm hne hb => .inr ⟨i, hm, hne, hb⟩) hvc
            obtain ⟨w', h1, h2⟩ := next_store_row (P := P) (N := N) gd hgd hinf hx (y := z) (off := off) (V := v) (by omega) (by omega) (a := a) ha' (fun us hus => by
              have h3 := (enc_rep (ψ := ψ) (h := hh.get) hus)
              have h4 := decOne_rep hz (hviews.splice off h3)
              rwa [splice_eq _ _ _ (by rw [Array.length_toList, hus.len]; omega), Array.length_toList] at h4) hone
            refine ⟨_, w', Zof Z ψ hh.get x.cells, rfl, h1, ?_⟩
            rw [show ((stored hh x.cells).2.set id (.own (.row ty kk) (xs.set i z))).get = upd (drops hh x.cells).get id (some (.own (.row ty kk) (xs.set i z))) from get_set _ _ _]
            exact h2.drop (fun b hb => .inl hb) (fun b hb => hb.imp (fun h => h) (fun ⟨i, _, h5, h6⟩ => ⟨i, h5, h6⟩)) (drops_sub _ _)
          · cases he2
        · cases he2
      · cases he
    · cases he
  · cases he
end Go.Vs

set_option linter.unusedSimpArgs false
set_option linter.unusedVariables false
namespace Go.Vs

variable {P : Program} {Z Z' : Nat → Prop} {ψ ψ' : Nat → Value} {h h' : Hp} {w w' : World} {B0 : Nat} {O : Nat → Prop} {N : Nat → Prop}

theorem agg_of {a : AV} {v : Value} (ha : a.isAgg = true) (hr : Rep Z ψ h w a v) : ∃ vs, v = .agg vs := by
  cases a <;> simp [AV.isAgg] at ha
  simp only [Rep] at hr
  obtain ⟨vs, rfl, _⟩ := hr
  exact ⟨vs, rfl⟩
theorem nonagg_of {a : AV} {v : Value} (ha : a.isAgg = false) (hno : a ≠ .no) (hr : Rep Z ψ h w a v) : v.cells = #[v] := by
  cases a with
  | no => exact absurd rfl hno
  | agg cs => simp [AV.isAgg] at ha
  | bool b => simp only [Rep] at hr; subst hr; rfl
  | int k n => simp only [Rep] at hr; subst hr; rfl
  | str s => simp only [Rep] at hr; subst hr; rfl
  | nilp => simp only [Rep] at hr; subst hr; rfl
  | nils => simp only [Rep] at hr; subst hr; rfl
  | ref id s i off => simp only [Rep] at hr; obtain ⟨a, rfl, _⟩ := hr; rfl
  | fp k x off => simp only [Rep] at hr; obtain ⟨a, us, rfl, _⟩ := hr; rfl
  | sl ex k xs => simp only [Rep, RepK] at hr; obtain ⟨⟨v', hv, A, c, rfl, _⟩, _⟩ := hr; cases hv; rfl
  | osl id => simp only [Rep] at hr; exact hr.1.1
  | mp kk vk es => simp only [Rep, RepK] at hr; obtain ⟨A, hv, _⟩ := hr; cases hv; rfl
  | fn f cap => simp only [Rep] at hr; obtain ⟨vs, rfl, _⟩ := hr; rfl
  | tup cs => simp only [Rep] at hr; obtain ⟨vs, rfl, _⟩ := hr; rfl

/-- One value of a kind, where its own rows may be read. -/
theorem ofOne_repK {hh : Heap} {k : K} {a : AV} {x : k.T} {v : Value} (g : Good Z ψ hh.get w B0 O) (hz : ∀ b, Z b → Z' b) (hb : ∀ id b, AV.osl id ∈ a.cells → hh.get id ≠ none → ob (ψ id) = some b → Z' b)
    (hx : ofOne k hh a = some x) (hr : Rep Z ψ hh.get w a v) : RepK Z' w k x v.cells.toList ∧ (k.isAgg = true → ∃ vs, v = .agg vs) ∧ (k.isAgg = false → v.cells = #[v]) := by
  unfold ofOne at hx
  split at hx
  · rename_i hag
    have hno := decOne_no hx
    have hv := views_rep g hz hb (hr.cells hno)
    exact ⟨decOne_rep hx hv, fun h => agg_of (by rw [← hag]; exact h) hr, fun h => nonagg_of (by rw [← hag]; exact h) hno hr⟩
  · cases hx
theorem ofOne_rep {hh : Heap} {k : K} {a : AV} {x : k.T} {v : Value} (g : Good Z ψ hh.get w B0 O) (hz : ∀ b, Z b → Z' b) (hb : ∀ id b, AV.osl id ∈ a.cells → hh.get id ≠ none → ob (ψ id) = some b → Z' b)
    (hx : ofOne k hh a = some x) (hr : Rep Z ψ hh.get w a v) : Rep Z' ψ' h' w (encV k x) v := by
  obtain ⟨h1, h2, h3⟩ := ofOne_repK g hz hb hx hr
  exact encV_rep h1 h2 h3

/-- Flat data hang on no memory. -/
theorem RepK.flat : ∀ {k : K} {x : k.T} {vs : List Value}, k.flat = true → RepK Z w k x vs → RepK Z' w' k x vs
  | .int _, _, _, _, h => h
  | .bool, _, _, _, h => h
  | .str, _, _, _, h => h
  | .sl k, _, _, hf, _ => by simp [K.flat] at hf
  | .pair a b, x, _, hf, h => by
    simp only [K.flat, Bool.and_eq_true] at hf
    simp only [RepK] at h ⊢
    obtain ⟨us, ws, rfl, h1, h2⟩ := h
    exact ⟨us, ws, rfl, RepK.flat hf.1 h1, RepK.flat hf.2 h2⟩
  | .one k, x, _, hf, h => by
    simp only [RepK] at h ⊢
    exact RepK.flat (k := k) (by simpa only [K.flat] using hf) h

/-! ### Keys -/
theorem eqT_iff : ∀ (k : K) (x y : k.T), k.flat = true → (eqT k x y = true ↔ x = y)
  | .int _, x, y, _ => by simp only [eqT]; exact beq_iff_eq (α := Int)
  | .bool, x, y, _ => by simp only [eqT]; exact beq_iff_eq (α := Bool)
  | .str, x, y, _ => by simp only [eqT]; exact MapKept.bytes_beq x y
  | .sl _, _, _, hf => by simp [K.flat] at hf
  | .mp _ _, _, _, hf => by simp [K.flat] at hf
  | .pair a b, x, y, hf => by
    simp only [K.flat, Bool.and_eq_true] at hf
    simp only [eqT, Bool.and_eq_true]
    rw [eqT_iff a _ _ hf.1, eqT_iff b _ _ hf.2]
    exact ⟨fun h => Prod.ext h.1 h.2, fun h => ⟨congrArg Prod.fst h, congrArg Prod.snd h⟩⟩
  | .one k, x, y, hf => by simp only [eqT]; exact eqT_iff k x y (by simpa only [K.flat] using hf)
theorem flat_cells : ∀ {k : K} {x : k.T} {us vs : List Value}, k.flat = true → RepK Z w k x us → RepK Z' w' k x vs → us = vs
  | .int _, _, _, _, _, h1, h2 => by simp only [RepK] at h1 h2; rw [h1, h2]
  | .bool, _, _, _, _, h1, h2 => by simp only [RepK] at h1 h2; rw [h1, h2]
  | .str, _, _, _, _, h1, h2 => by simp only [RepK] at h1 h2; rw [h1, h2]
  | .sl _, _, _, _, hf, _, _ => by simp [K.flat] at hf
  | .mp _ _, _, _, _, hf, _, _ => by simp [K.flat] at hf
  | .pair a b, x, _, _, hf, h1, h2 => by
    simp only [K.flat, Bool.and_eq_true] at hf
    simp only [RepK] at h1 h2
    obtain ⟨a1, a2, rfl, h3, h4⟩ := h1
    obtain ⟨b1, b2, rfl, h5, h6⟩ := h2
    rw [flat_cells hf.1 h3 h5, flat_cells hf.2 h4 h6]
  | .one k, x, _, _, hf, h1, h2 => by
    simp only [RepK] at h1 h2
    exact flat_cells (k := k) (by simpa only [K.flat] using hf) h1 h2
theorem flat_bits : ∀ {k : K} {x : k.T} {us : List Value}, k.flat = true → RepK Z w k x us → ∀ u ∈ us, ∀ n, Instr.sameBits n u u = true
  | .int _, x, _, _, h1, u, hu, n => by simp only [RepK] at h1; subst h1; simp only [List.mem_singleton] at hu; subst hu; cases n <;> simp [Instr.sameBits] <;> exact beq_self_eq_true (α := Int) x
  | .bool, x, _, _, h1, u, hu, n => by simp only [RepK] at h1; subst h1; simp only [List.mem_singleton] at hu; subst hu; cases n <;> simp [Instr.sameBits] <;> exact beq_self_eq_true (α := Bool) x
  | .str, x, _, _, h1, u, hu, n => by simp only [RepK] at h1; subst h1; simp only [List.mem_singleton] at hu; subst hu; cases n <;> simp [Instr.sameBits] <;> exact (MapKept.bytes_beq x x).2 rfl
  | .sl _, _, _, hf, _, _, _, _ => by simp [K.flat] at hf
  | .mp _ _, _, _, hf, _, _, _, _ => by simp [K.flat] at hf
  | .pair a b, x, _, hf, h1, u, hu, n => by
    simp only [K.flat, Bool.and_eq_true] at hf
    simp only [RepK] at h1
    obtain ⟨a1, a2, rfl, h3, h4⟩ := h1
    rcases List.mem_append.1 hu with hu | hu
    · exact flat_bits hf.1 h3 u hu n
    · exact flat_bits hf.2 h4 u hu n
  | .one k, x, _, hf, h1, u, hu, n => by
    simp only [RepK] at h1
    exact flat_bits (k := k) (by simpa only [K.flat] using hf) h1 u hu n
/-- A value's shape. -/
def Shp (b : Bool) (v : Value) : Prop := (b = true → ∃ vs, v = .agg vs) ∧ (b = false → v.cells = #[v])
theorem cells_inj {b : Bool} {u v : Value} (h1 : Shp b u) (h2 : Shp b v) (h : u.cells.toList = v.cells.toList) : u = v := by
  cases b with
  | true =>
    obtain ⟨a, rfl⟩ := h1.1 rfl
    obtain ⟨c, rfl⟩ := h2.1 rfl
    have : a = c := by simpa [Value.cells] using h
    rw [this]
  | false =>
    rw [h1.2 rfl, h2.2 rfl] at h
    simpa using h
theorem key_same {k : K} {x : k.T} {u : Value} (hf : k.flat = true) (hr : RepK Z w k x u.cells.toList) (hs : Shp k.isAgg u) : Instr.sameBits 10000 u u = true := by
  have hb := flat_bits hf hr
  cases hk : k.isAgg with
  | false => exact hb u (by rw [hs.2 hk]; simp) _
  | true =>
    obtain ⟨a, rfl⟩ := hs.1 hk
    show Instr.sameBits (9999 + 1) (.agg a) (.agg a) = true
    simp only [Instr.sameBits, beq_self_eq_true, Bool.true_and, List.all_eq_true]
    intro p hp
    obtain ⟨i, hi, he⟩ := List.mem_iff_getElem.1 hp
    simp only [List.getElem_zip] at he
    subst he
    exact hb _ (List.getElem_mem (l := (Value.agg a).cells.toList) (by simpa [Value.cells] using hi)) _

/-- Where a key stands among others. -/
def Keys (Z : Nat → Prop) (w : World) (k : K) (ys : List k.T) (l : List MapEntry) : Prop := ys.length = l.length ∧ ∀ (i : Nat) y e, ys[i]? = some y → l[i]? = some e → RepK Z w k y e.key.cells.toList ∧ Shp k.isAgg e.key
theorem Keys.tail {k : K} {y : k.T} {ys : List k.T} {e : MapEntry} {l : List MapEntry} (h : Keys Z w k (y :: ys) (e :: l)) : Keys Z w k ys l := ⟨by simpa using h.1, fun i a b h1 h2 => h.2 (i + 1) a b (by simpa using h1) (by simpa using h2)⟩
theorem find_now {k : K} {x : k.T} {d : TypeDesc} {kv : Value} (hs : ∀ y kv', RepK Z w k y kv'.cells.toList → Shp k.isAgg kv' → Instr.sameNow d kv kv' = some (eqT k x y)) : ∀ (l : List MapEntry) (ys : List k.T) (i : Nat), Keys Z w k ys l →
    Instr.findNow d kv l i = some ((ys.findIdx? (eqT k x)).map fun j => (i + j, ((l[j]?).map (·.val)).getD undef))
  | [], ys, i, h => by
    have : ys = [] := List.eq_nil_of_length_eq_zero (by simpa using h.1)
    subst this; rfl
  | e :: l, [], i, h => by have := h.1; simp at this
  | e :: l, y :: ys, i, h => by
    obtain ⟨h1, h2⟩ := h.2 0 y e rfl rfl
    have ih := find_now hs l ys (i + 1) h.tail
    simp only [Instr.findNow, hs y _ h1 h2, List.findIdx?_cons]
    cases eqT k x y with
    | true => simp
    | false =>
      simp only [ih, Bool.false_eq_true, if_false]
      cases ys.findIdx? (eqT k x) with
      | none => rfl
      | some j => simp; omega
theorem find_asking {k : K} {x : k.T} {t : TypeId} {kv : Value} (hs : ∀ y kv', RepK Z w k y kv'.cells.toList → Shp k.isAgg kv' → (Op.equal t kv kv').run P w = .ok (eqT k x y) w) : ∀ (l : List MapEntry) (ys : List k.T) (i : Nat), Keys Z w k ys l →
    (Instr.findAsking t kv l i).run P w = .ok ((ys.findIdx? (eqT k x)).map fun j => (i + j, ((l[j]?).map (·.val)).getD undef)) w
  | [], ys, i, h => by
    have : ys = [] := List.eq_nil_of_length_eq_zero (by simpa using h.1)
    subst this; rfl
  | e :: l, [], i, h => by have := h.1; simp at this
  | e :: l, y :: ys, i, h => by
    obtain ⟨h1, h2⟩ := h.2 0 y e rfl rfl
    have ih := find_asking hs l ys (i + 1) h.tail
    simp only [Instr.findAsking, Sem.run_bind, hs y _ h1 h2, Result.andThen_ok, List.findIdx?_cons]
    cases eqT k x y with
    | true => simp
    | false =>
      simp only [ih, Bool.false_eq_true, if_false]
      cases ys.findIdx? (eqT k x) with
      | none => rfl
      | some j => simp; omega

structure KeyRun (P : Program) (t : TypeId) (k : K) : Prop where
  flat : k.flat = true
  check : ∀ (Z : Nat → Prop) (w : World) (x : k.T) (kv : Value) (e : Bool), RepK Z w k x kv.cells.toList → Shp k.isAgg kv → (Instr.checkKey e 10000 t kv).run P w = .ok () w
  find : ∀ (Z : Nat → Prop) (w : World) (x : k.T) (kv : Value) (l : List MapEntry) (ys : List k.T), RepK Z w k x kv.cells.toList → Shp k.isAgg kv → Keys Z w k ys l →
    (Instr.findKey t kv l).run P w = .ok ((ys.findIdx? (eqT k x)).map fun j => (j, ((l[j]?).map (·.val)).getD undef)) w
theorem keyRun_plain {t : TypeId} {k : K} {d : TypeDesc} (hf : k.flat = true) (hk : k.isAgg = false) (hd : P.underlying t = some d) (hc : ∀ (Z : Nat → Prop) (w : World) (x : k.T) (kv : Value), RepK Z w k x [kv] → MapKept.IsKey d kv)
    (hs : ∀ (Z : Nat → Prop) (w : World) (x y : k.T) (u v : Value), RepK Z w k x [u] → RepK Z w k y [v] → Instr.sameNow d u v = some (eqT k x y)) : KeyRun P t k := by
  have one : ∀ {Z : Nat → Prop} {w : World} {x : k.T} {kv : Value}, RepK Z w k x kv.cells.toList → Shp k.isAgg kv → RepK Z w k x [kv] := fun {Z w x kv} h1 h2 => by
    rw [h2.2 hk] at h1; exact h1
  refine ⟨hf, fun Z w x kv e h1 h2 => MapKept.run_checkKey hd (hc Z w x kv (one h1 h2)) e 9999, fun Z w x kv l ys h1 h2 h3 => ?_⟩
  have := find_now (Z := Z) (w := w) (x := x) (d := d) (kv := kv) (fun y kv' h4 h5 => hs Z w x y kv kv' (one h1 h2) (one h4 h5)) l ys 0 h3
  simp only [Nat.zero_add] at this
  exact MapKept.run_findKey hd this
theorem sameNow_agg (d : TypeDesc) (a : Array Value) (v : Value) : Instr.sameNow d (.agg a) v = none := by cases d <;> cases v <;> rfl
theorem keyRun_of {Eqs : TypeId → Option K} (hEq : ∀ t k, Eqs t = some k → EqFact P t k) {t : TypeId} {k : K} (hk : keyOk P Eqs t k = true) : KeyRun P t k := by
  unfold keyOk at hk
  rw [Bool.and_eq_true] at hk
  obtain ⟨hf, hk⟩ := hk
  split at hk
  · rename_i ik ik' hd
    simp only [decide_eq_true_eq] at hk
    subst hk
    exact keyRun_plain hf rfl hd (fun Z w x kv hr => by simp only [RepK] at hr; cases hr; simp [MapKept.IsKey]) (fun Z w x y u v h1 h2 => by simp only [RepK] at h1 h2; cases h1; cases h2; simp [Instr.sameNow, eqT])
  · rename_i hd
    exact keyRun_plain hf rfl hd (fun Z w x kv hr => by simp only [RepK] at hr; cases hr; simp [MapKept.IsKey]) (fun Z w x y u v h1 h2 => by simp only [RepK] at h1 h2; cases h1; cases h2; simp [Instr.sameNow, eqT])
  · rename_i hd
    exact keyRun_plain hf rfl hd (fun Z w x kv hr => by simp only [RepK] at hr; cases hr; simp [MapKept.IsKey]) (fun Z w x y u v h1 h2 => by simp only [RepK] at h1 h2; cases h1; cases h2; simp [Instr.sameNow, eqT])
  · simp only [Bool.and_eq_true, decide_eq_true_eq] at hk
    obtain ⟨hag, hk⟩ := hk
    have fact := hEq _ _ hk
    have agg : ∀ {b : Bool} {u : Value}, b = true → Shp b u → ∃ a, u = .agg a := fun hb h => h.1 hb
    refine ⟨hf, fun Z w x kv e h1 h2 => ?_, fun Z w x kv l ys h1 h2 h3 => ?_⟩
    · obtain ⟨a, rfl⟩ := agg hag h2
      exact (fact Z w x x a a h1 h1).2.2 e
    · obtain ⟨a, rfl⟩ := agg hag h2
      have h4 := find_asking (P := P) (t := t) (Z := Z) (w := w) (x := x) (kv := .agg a) (fun y kv' h4 h5 => by
        obtain ⟨b, rfl⟩ := agg hag h5
        exact (fact Z w x y a b h1 h4).1) l ys 0 h3
      simp only [Nat.zero_add] at h4
      cases l with
      | nil =>
        have : ys = [] := List.eq_nil_of_length_eq_zero (by simpa using h3.1)
        subst this
        cases hu : P.underlying t with
        | none =>
          have hc := (fact Z w x x a a h1 h1).2.2 true
          exfalso
          unfold Instr.checkKey at hc
          simp [underlying, hu] at hc
        | some d => simp [Instr.findKey, run_underlying hu, Instr.findNow]
      | cons e l =>
        cases hu : P.underlying t with
        | none =>
          have hc := (fact Z w x x a a h1 h1).2.2 true
          exfalso
          unfold Instr.checkKey at hc
          simp [underlying, hu] at hc
        | some d => simp only [Instr.findKey, Sem.run_bind, run_underlying hu, Result.andThen_ok, Instr.findNow, sameNow_agg]; exact h4

/-! ### Entries -/
section
variable {kk vk : K} {es : List (kk.T × vk.T)} {l : List MapEntry}
abbrev Ents (Z : Nat → Prop) (w : World) (kk vk : K) (es : List (kk.T × vk.T)) (l : List MapEntry) : Prop := EntC (RepK Z w kk) (RepK Z w vk) kk.isAgg vk.isAgg es l
theorem Ents.keys (h : Ents Z w kk vk es l) : Keys Z w kk (es.map (·.1)) l :=
  ⟨by rw [List.length_map]; exact h.1, fun i y e h1 h2 => by
    rw [List.getElem?_map] at h1
    obtain ⟨x, h3, rfl⟩ := Option.map_eq_some_iff.1 h1
    exact (h.2 i x e h3 h2).1⟩
theorem midx_map {x : kk.T} : (es.map (·.1)).findIdx? (eqT kk x) = midx kk x es := by unfold midx; rw [List.findIdx?_map]; rfl
theorem midx_lt {x : kk.T} {i : Nat} (h : midx kk x es = some i) : i < es.length := by
  unfold midx at h
  exact (List.findIdx?_eq_some_iff_getElem.1 h).1
theorem midx_eq {x : kk.T} {i : Nat} (h : midx kk x es = some i) : ∃ e, es[i]? = some e ∧ eqT kk x e.1 = true := by
  unfold midx at h
  obtain ⟨h1, h2, _⟩ := List.findIdx?_eq_some_iff_getElem.1 h
  exact ⟨_, List.getElem?_eq_getElem h1, h2⟩
/-- One entry. -/
def EntOne (Z : Nat → Prop) (w : World) (kk vk : K) (x : kk.T × vk.T) (e : MapEntry) : Prop := (RepK Z w kk x.1 e.key.cells.toList ∧ Shp kk.isAgg e.key) ∧ RepK Z w vk x.2 e.val.cells.toList ∧ Shp vk.isAgg e.val
theorem Ents.set (h : Ents Z w kk vk es l) (i : Nat) {x : kk.T × vk.T} {f : MapEntry → MapEntry} (ho : ∀ e, l[i]? = some e → EntOne Z w kk vk x (f e)) : Ents Z w kk vk (es.set i x) (l.modify i f) := by
  refine ⟨by simp [h.1], fun j y e h1 h2 => ?_⟩
  rw [List.getElem?_modify] at h2
  obtain ⟨e0, h3, h4⟩ := Option.map_eq_some_iff.1 h2
  by_cases hij : i = j
  · subst hij
    rw [if_pos rfl] at h4
    have hlt : i < es.length := by rw [h.1]; exact (List.getElem?_eq_some_iff.1 h3).1
    rw [List.getElem?_set_self hlt] at h1
    cases h1
    subst h4
    exact ho e0 h3
  · rw [if_neg hij] at h4
    rw [List.getElem?_set_ne hij] at h1
    subst h4
    exact h.2 j y e0 h1 h3
theorem Ents.push (h : Ents Z w kk vk es l) {x : kk.T × vk.T} {e : MapEntry} (ho : EntOne Z w kk vk x e) : Ents Z w kk vk (es ++ [x]) (l ++ [e]) := by
  refine ⟨by simp [h.1], fun j y e' h1 h2 => ?_⟩
  by_cases hj : j < es.length
  · rw [List.getElem?_append_left hj] at h1
    rw [List.getElem?_append_left (by rw [← h.1]; exact hj)] at h2
    exact h.2 j y e' h1 h2
  · rw [List.getElem?_append_right (by omega)] at h1
    rw [List.getElem?_append_right (by have := h.1; omega), ← h.1] at h2
    by_cases h0 : j - es.length = 0
    · rw [h0] at h1 h2; cases h1; cases h2; exact ho
    · rw [List.getElem?_eq_none (by simp; omega)] at h1; cases h1
theorem Ents.erase (h : Ents Z w kk vk es l) (i : Nat) : Ents Z w kk vk (es.eraseIdx i) (l.eraseIdx i) := by
  refine ⟨by rw [List.length_eraseIdx, List.length_eraseIdx, h.1], fun j y e h1 h2 => ?_⟩
  rw [List.getElem?_eraseIdx] at h1 h2
  split at h1
  · rename_i hj; rw [if_pos hj] at h2; exact h.2 j y e h1 h2
  · rename_i hj; rw [if_neg hj] at h2; exact h.2 (j + 1) y e h1 h2
theorem Ents.mono (h : Ents Z w kk vk es l) (hz : ∀ b, Z b → Z' b) (hs : Same Z w w') : Ents Z' w' kk vk es l := EntC.imp (fun _ _ h => h.mono hz hs) (fun _ _ h => h.mono hz hs) h
end

theorem mapOf_spec {Eqs : TypeId → Option K} {t : TypeId} {kk vk : K} (h : mapOf P Eqs t = some (kk, vk)) : ∃ a b, P.underlying t = some (.map a b) ∧ keyOk P Eqs a kk = true ∧ elemZ P b vk = true := by
  unfold mapOf at h
  split at h
  · rename_i a b hu
    split at h
    · split at h
      · rename_i hc
        cases h
        rw [Bool.and_eq_true] at hc
        exact ⟨a, b, hu, hc.1, hc.2⟩
      · cases h
    · cases h
  · cases h
theorem elemZ_spec {b : TypeId} {vk : K} (h : elemZ P b vk = true) : ∃ z, (zeroValue b).run P w = .ok z w ∧ RepK Z w vk (zeroT vk) z.cells.toList ∧ Shp vk.isAgg z := by
  unfold elemZ at h
  split at h
  · rename_i i hi
    split at h
    · rename_i z hz
      refine ⟨z, run_zero hi hz, ?_⟩
      unfold zeroIs at h
      split at h
      · simp only [decide_eq_true_eq] at h; obtain ⟨rfl, rfl⟩ := h; exact ⟨by simp only [RepK]; rfl, fun h => (by cases h), fun _ => rfl⟩
      · rename_i b; simp only [Bool.not_eq_true'] at h; subst h; exact ⟨by simp only [RepK]; rfl, fun h => (by cases h), fun _ => rfl⟩
      · simp only [decide_eq_true_eq] at h; subst h; exact ⟨by simp only [RepK]; rfl, fun h => (by cases h), fun _ => rfl⟩
      · simp only [decide_eq_true_eq] at h; obtain ⟨rfl, rfl, rfl⟩ := h
        exact ⟨by simp only [RepK]; exact ⟨_, rfl, none, 0, rfl, Nat.le_refl _, fun _ => rfl, fun i x hx => by simp [zeroT] at hx⟩, fun h => (by cases h), fun _ => rfl⟩
      · cases h
    · cases h
  · cases h

/-- The map that an operation reads. -/
theorem map_src {hh : Heap} (g : Good Z ψ h w B0 O) (hsub : ∀ id o, hh.get id = some o → h id = some o) {m : AV} {u : Value} {kk vk : K} {es : List (kk.T × vk.T)} (hm : Rep Z ψ h w m u) (hv : view1 hh m = .mp kk vk es) :
    ∃ A, u = .map A ∧ ((A = none ∧ es = []) ∨ ∃ r ents clock, A = some r ∧ w.heap[r]? = some (.map ents clock) ∧ Ents Z w kk vk es ents.toList) := by
  cases m with
  | mp kk' vk' es' =>
    simp only [view1] at hv
    cases hv
    simp only [Rep, RepK] at hm
    obtain ⟨A, h1, h2⟩ := hm
    cases h1
    refine ⟨A, rfl, h2.imp (fun h => h) fun ⟨m, ents, clock, h3, _, h4, h5⟩ => ⟨m, ents, clock, h3, h4, h5⟩⟩
  | osl id =>
    simp only [view1] at hv
    split at hv
    · cases hv
    · rename_i kk' vk' es' hg
      cases hv
      have hg' := hsub _ _ hg
      simp only [Rep] at hm
      have := hm.2 (by rw [hg']; simp)
      subst this
      obtain ⟨r, ents, clock, h1, h2, h3, _⟩ := g.row id (.map kk vk) es hg'
      exact ⟨some r, h1, .inr ⟨r, ents, clock, rfl, h2, h3⟩⟩
    · cases hv
  | _ => simp only [view1] at hv; cases hv

/-- A key. -/
theorem key_of {hh : Heap} (g : Good Z ψ h w B0 O) (hsub : ∀ id o, hh.get id = some o → h id = some o) {k : K} (hf : k.flat = true) {a : AV} {x : k.T} {v : Value} (hx : ofOne k hh a = some x) (hr : Rep Z ψ h w a v) : RepK Z w k x v.cells.toList ∧ Shp k.isAgg v := by
  obtain ⟨h1, h2, h3⟩ := ofOne_repK (Z' := fun b => b < w.heap.size) (g.sub hsub) (fun b hb => g.zlt b hb) (fun id b _ h1 h2 => (g.sub hsub).own_lt ⟨id, h1, h2⟩) hx (hr.less (fun _ h => h) (Same.refl _ _) (fun id hid => by
    obtain ⟨o, ho⟩ := Option.ne_none_iff_exists'.1 hid
    exact ⟨by rw [hsub id o ho]; simp, rfl⟩))
  exact ⟨h1.flat hf, h2, h3⟩

theorem lookup_sound {Eqs : TypeId → Option K} (hEq : ∀ t k, Eqs t = some k → EqFact P t k) {hh : Heap} (g : Good Z ψ h w B0 O) (hsub : ∀ id o, hh.get id = some o → h id = some o) {t : TypeId} {m i : AV} {u v : Value} {ok : Bool} {e : Eff}
    (hm : Rep Z ψ h w m u) (hi : Rep Z ψ h w i v) (he : opLookup P Eqs hh t m i ok some = some e) : ∃ y V, e = .val y ∧ (Instr.lookup t u v ok).run P w = .ok V w ∧ Rep Z ψ h w y V := by
  unfold opLookup at he
  split at he
  · rename_i ka va kk vk es hmo hv
    split at he
    · rename_i hc
      obtain ⟨rfl, rfl⟩ := hc
      split at he
      · rename_i x hx
        cases he
        obtain ⟨a, b, hu, hk, hz⟩ := mapOf_spec hmo
        have K := keyRun_of hEq hk
        obtain ⟨hk1, hk2⟩ := key_of g hsub K.flat hx hi
        obtain ⟨z, hz1, hz2, hz3⟩ := elemZ_spec (Z := Z) (w := w) hz
        have fin : ∀ (l : List MapEntry), Ents Z w kk vk es l → ∃ V, ((∃ j, (Instr.findKey a v l).run P w = .ok (some (j, V)) w ∧ (mget kk x es).isSome = true) ∨ ((Instr.findKey a v l).run P w = .ok none w ∧ (zeroValue b).run P w = .ok V w ∧ (mget kk x es).isSome = false)) ∧
            RepK Z w vk ((mget kk x es).getD (zeroT vk)) V.cells.toList ∧ Shp vk.isAgg V := by
          intro l hE
          have hf := K.find Z w x v l (es.map (·.1)) hk1 hk2 hE.keys
          rw [midx_map] at hf
          cases hix : midx kk x es with
          | none =>
            rw [hix] at hf
            exact ⟨z, .inr ⟨hf, hz1, by simp [mget, hix]⟩, by simpa [mget, hix] using hz2, hz3⟩
          | some j =>
            rw [hix] at hf
            have hj := midx_lt hix
            have h1 : es[j]? = some es[j] := List.getElem?_eq_getElem hj
            have hjl : j < l.length := by rw [← hE.1]; exact hj
            have h2 : l[j]? = some l[j] := List.getElem?_eq_getElem hjl
            obtain ⟨_, h3, h4⟩ := hE.2 j _ _ h1 h2
            refine ⟨l[j].val, .inl ⟨j, ?_, by simp [mget, hix, h1]⟩, by simpa [mget, hix, h1] using h3, h4⟩
            rw [hf]; simp only [Option.map_some, h2, Option.getD_some]
        have out : ∀ V : Value, RepK Z w vk ((mget kk x es).getD (zeroT vk)) V.cells.toList → Shp vk.isAgg V → Rep Z ψ h w (cond ok (AV.tup [encV vk ((mget kk x es).getD (zeroT vk)), .bool (mget kk x es).isSome]) (encV vk ((mget kk x es).getD (zeroT vk)))) (if ok then .tuple #[V, .bool (mget kk x es).isSome] else V) := by
          intro V h1 h2
          have h3 : Rep Z ψ h w (encV vk ((mget kk x es).getD (zeroT vk))) V := encV_rep h1 h2.1 h2.2
          cases ok with
          | false => exact h3
          | true => simp only [cond_true, if_true, Rep, RepL]; exact ⟨_, rfl, V, [.bool (mget kk x es).isSome], by simp, h3, _, [], rfl, rfl, rfl⟩
        obtain ⟨A, rfl, hA⟩ := map_src g hsub hm hv
        rcases hA with ⟨rfl, rfl⟩ | ⟨r, ents, clock, rfl, h3, h4⟩
        · obtain ⟨V, h5, h6, h7⟩ := fin [] ⟨rfl, fun i x e h => by simp at h⟩
          refine ⟨_, _, rfl, ?_, out V h6 h7⟩
          simp only [Instr.lookup, Sem.run_bind, run_underlying hu, Result.andThen_ok, Sem.run_pure, K.check Z w x v _ hk1 hk2]
          rcases h5 with ⟨j, h8, h9⟩ | ⟨h8, h9, h10⟩
          · simp [h8, h9]
          · simp [h8, h9, h10]
        · obtain ⟨V, h5, h6, h7⟩ := fin ents.toList h4
          refine ⟨_, _, rfl, ?_, out V h6 h7⟩
          simp only [Instr.lookup, Sem.run_bind, run_underlying hu, Result.andThen_ok, Sem.run_pure, MapKept.run_getObj_map h3, K.check Z w x v _ hk1 hk2]
          rcases h5 with ⟨j, h8, h9⟩ | ⟨h8, h9, h10⟩
          · simp [h8, h9]
          · simp [h8, h9, h10]
      · cases he
    · cases he
  · cases he

end Go.Vs

set_option linter.unusedSimpArgs false
set_option linter.unusedVariables false
namespace Go.Vs

variable {P : Program} {Z Z' : Nat → Prop} {ψ ψ' : Nat → Value} {h h' : Hp} {w w' : World} {B0 : Nat} {O : Nat → Prop} {N : Nat → Prop}

/-! ### Writes -/
theorem set_other {r b : Nat} (o : Obj) (hne : r ≠ b) : (w.heap.setIfInBounds r o)[b]? = w.heap[b]? := by rw [Array.getElem?_setIfInBounds]; simp [hne]
theorem Keep.setO {r : Nat} (ho : Own ψ h r) (o : Obj) : Keep ψ h w { w with heap := w.heap.setIfInBounds r o } :=
  ⟨rfl, rfl, rfl, by simp, fun b _ hb => set_other o (fun e => hb (e ▸ ho))⟩
/-- Something of one's own that is a block by itself is written. -/
theorem write_own {hp : Hp} (g : Good Z ψ hp w B0 O) {id : Nat} (hid : hp id ≠ none) {r : Nat} (hr : ob (ψ id) = some r) (hlt : r < w.heap.size) (o : Obj) {ok : OK} {x : ok.T}
    (hx : ∀ w' : World, w'.heap = w.heap.setIfInBounds r o → Same Z w w' → OwnOb Z w' ok (ψ id) x) :
    Next Z ψ hp w B0 O N Z ψ (upd hp id (some (.own ok x))) { w with heap := w.heap.setIfInBounds r o } := by
  have ho : Own ψ hp r := ⟨id, hid, hr⟩
  have kk := Keep.setO (w := w) ho o
  refine g.write id hid kk (fun b hb _ => set_other o (fun e => hb (by rw [hr, e]))) _ (fun _ _ he => by cases he) (fun ok' x' he => ?_)
  cases he
  exact hx _ rfl (kk.same g)

theorem born_modify {l : List MapEntry} {i : Nat} {f : MapEntry → MapEntry} (hf : ∀ e, (f e).born = e.born) : (l.modify i f).map (·.born) = l.map (·.born) := by
  apply List.ext_getElem?
  intro j
  simp only [List.getElem?_map, List.getElem?_modify]
  cases l[j]? with
  | none => rfl
  | some e => simp only [Option.map_some]; split <;> simp [hf]
theorem born_pair {l : List MapEntry} : l.Pairwise (fun a b => a.born ≠ b.born) ↔ (l.map (·.born)).Pairwise (· ≠ ·) := by rw [List.pairwise_map]

theorem update_sound {Eqs : TypeId → Option K} (hEq : ∀ t k, Eqs t = some k → EqFact P t k) {hh : Heap} (g : Good Z ψ hh.get w B0 O) {t : TypeId} {m i v : AV} {u1 u2 u3 : Value} {e : Eff}
    (hm : Rep Z ψ hh.get w m u1) (hi : Rep Z ψ hh.get w i u2) (hv : Rep Z ψ hh.get w v u3) (he : opMapUpdate P Eqs hh t m i v some = some e) :
    ∃ hw w' Z', e = .wr (.tup []) hw ∧ (Instr.mapUpdate t u1 u2 u3).run P w = .ok () w' ∧ Next Z ψ hh.get w B0 O N Z' ψ hw.get w' := by
  unfold opMapUpdate at he
  split at he
  · rename_i ka va id hmo
    split at he
    · rename_i kk vk es hg
      split at he
      · rename_i hc
        obtain ⟨rfl, rfl⟩ := hc
        split at he
        · rename_i x y hx hy hno
          cases he
          obtain ⟨a, b, hu, hk, _⟩ := mapOf_spec hmo
          have K := keyRun_of hEq hk
          obtain ⟨hk1, hk2⟩ := key_of g (fun _ _ h => h) K.flat hx hi
          simp only [Rep] at hm
          have hmv := hm.2 (by rw [hg]; simp)
          obtain ⟨r, ents, clock, h1, h2, h3, h4, h5⟩ := g.row id (.map kk vk) es hg
          rw [h1] at hmv
          subst hmv
          have hid : AV.osl id ∉ v.cells := fun hc => by
            have := List.all_eq_true.1 hno _ hc
            simp at this
          have gd := drops_good g v.cells
          have hgd : (drops hh v.cells).get id = some (.own (.map kk vk) es) := by rw [drops_keep _ _ _ hid]; exact hg
          obtain ⟨hv1, hv2, hv3⟩ := ofOne_repK (Z' := Zof Z ψ hh.get v.cells) g (fun b hb => .inl hb) (fun id b h1 h2 h3 => .inr ⟨id, h1, h2, h3⟩) hy hv
          have hk1' : RepK (Zof Z ψ hh.get v.cells) w kk x u2.cells.toList := hk1.flat K.flat
          have hlt := (Array.getElem?_eq_some_iff.1 h2).1
          have hob : ob (ψ id) = some r := by rw [h1]; rfl
          have hE : Ents (Zof Z ψ hh.get v.cells) w kk vk es ents.toList := Ents.mono h3 (fun b hb => .inl hb) (Same.refl _ _)
          have hf := K.find Z w x u2 ents.toList (es.map (·.1)) hk1 hk2 (Ents.keys h3)
          rw [midx_map] at hf
          have fin : ∀ (o : Obj) (es' : List (kk.T × vk.T)) (ents' : Array MapEntry) (clock' : Nat), o = .map ents' clock' → Ents (Zof Z ψ hh.get v.cells) w kk vk es' ents'.toList → (ents'.toList.map (·.born)).Pairwise (· ≠ ·) → (∀ e ∈ ents'.toList, e.born < clock') →
              Next Z ψ hh.get w B0 O N (Zof Z ψ hh.get v.cells) ψ ((drops hh v.cells).set id (.own (.map kk vk) es')).get { w with heap := w.heap.setIfInBounds r o } := by
            rintro o es' ents' clock' rfl h6 h7 h8
            rw [get_set]
            have n := write_own (N := N) gd (by rw [hgd]; simp) hob hlt (.map ents' clock') (ok := .map kk vk) (x := es') (fun w' hw' sm => ⟨r, ents', clock', h1, by rw [hw']; simp [hlt], Ents.mono h6 (fun _ h => h) sm, born_pair.2 h7, h8⟩)
            exact n.drop (fun b hb => .inl hb) (fun b hb => hb.imp (fun h => h) (fun ⟨i, _, h5, h6⟩ => ⟨i, h5, h6⟩)) (drops_sub _ _)
          cases hix : midx kk x es with
          | none =>
            rw [hix] at hf
            refine ⟨_, { w with heap := w.heap.setIfInBounds r (.map (ents.push { key := u2, val := u3, born := clock }) (clock + 1)) }, Zof Z ψ hh.get v.cells, rfl, ?_, ?_⟩
            rotate_left
            · rw [show mput kk x y es = es ++ [(x, y)] by simp [mput, hix]]
              refine fin _ _ (ents.push { key := u2, val := u3, born := clock }) (clock + 1) rfl ?_ ?_ ?_
              · rw [Array.toList_push]
                exact hE.push ⟨⟨hk1', hk2⟩, hv1, hv2, hv3⟩
              · rw [Array.toList_push, List.map_append, List.pairwise_append]
                refine ⟨born_pair.1 h4, by simp, fun a ha b hb => ?_⟩
                simp only [List.map_cons, List.map_nil, List.mem_singleton] at hb
                obtain ⟨e, he, rfl⟩ := List.mem_map.1 ha
                have := h5 e he
                omega
              · intro e he
                rw [Array.toList_push] at he
                rcases List.mem_append.1 he with he | he
                · have := h5 e he; omega
                · simp only [List.mem_singleton] at he; subst he; exact Nat.lt_succ_self _
            · simp only [Instr.mapUpdate, Sem.run_bind, run_underlying hu, Result.andThen_ok, MapKept.run_getObj_map h2, K.check Z w x u2 _ hk1 hk2, hf, Option.map_none, MapKept.run_setObj_map _ h2]
          | some j =>
            rw [hix] at hf
            have hj := midx_lt hix
            obtain ⟨e0, he0, heq⟩ := midx_eq hix
            have hjl : j < ents.toList.length := by rw [← h3.1]; exact hj
            have hl : ents.toList[j]? = some ents.toList[j] := List.getElem?_eq_getElem hjl
            have hla : ents[j]? = some ents.toList[j] := by rw [← hl]; simp
            obtain ⟨⟨hko1, hko2⟩, _⟩ := h3.2 j _ _ he0 hl
            have hsame : ents.toList[j].key = u2 := by
              refine cells_inj hko2 hk2 ?_
              rw [← (eqT_iff kk x e0.1 K.flat).1 heq] at hko1
              exact flat_cells K.flat hko1 hk1
            have hkeep : (Instr.keyThatStays u2 u2).run P w = .ok u2 w := by simp [Instr.keyThatStays, key_same K.flat hk1 hk2]
            refine ⟨_, { w with heap := w.heap.setIfInBounds r (.map (ents.modify j fun e => { e with key := u2, val := u3 }) clock) }, Zof Z ψ hh.get v.cells, rfl, ?_, ?_⟩
            rotate_left
            · rw [show mput kk x y es = es.set j (x, y) by simp [mput, hix]]
              refine fin _ _ (ents.modify j fun e => { e with key := u2, val := u3 }) clock rfl ?_ ?_ ?_
              · rw [Array.toList_modify]
                exact hE.set j (fun e he => ⟨⟨hk1', hk2⟩, hv1, hv2, hv3⟩)
              · rw [Array.toList_modify, born_modify (f := fun e : MapEntry => { e with key := u2, val := u3 }) (fun _ => rfl)]; exact born_pair.1 h4
              · intro e he
                have : e.born ∈ (ents.modify j fun e => { e with key := u2, val := u3 }).toList.map (·.born) := List.mem_map.2 ⟨e, he, rfl⟩
                rw [Array.toList_modify, born_modify (f := fun e : MapEntry => { e with key := u2, val := u3 }) (fun _ => rfl)] at this
                obtain ⟨e', he', h6⟩ := List.mem_map.1 this
                rw [← h6]; exact h5 e' he'
            · simp only [Instr.mapUpdate, Sem.run_bind, run_underlying hu, Result.andThen_ok, MapKept.run_getObj_map h2, K.check Z w x u2 _ hk1 hk2, hf, Option.map_some, hla, Option.getD_some, hsame, hkeep, MapKept.run_setObj_map _ h2]
        · cases he
      · cases he
    · cases he
  · cases he

theorem delete_sound {Eqs : TypeId → Option K} (hEq : ∀ t k, Eqs t = some k → EqFact P t k) {hh : Heap} (g : Good Z ψ hh.get w B0 O) {t ty : TypeId} {ts : List TypeId} {m i : AV} {u1 u2 : Value} {e : Eff}
    (hm : Rep Z ψ hh.get w m u1) (hi : Rep Z ψ hh.get w i u2) (he : opDelete P Eqs hh t m i some = some e) :
    ∃ hw w', e = .wr (.tup []) hw ∧ (Builtin.delete_ (t :: ts).toArray ty #[u1, u2]).run P w = .ok (.tuple #[]) w' ∧ Next Z ψ hh.get w B0 O N Z ψ hw.get w' := by
  unfold opDelete at he
  split at he
  · rename_i ka va id hmo
    split at he
    · rename_i kk vk es hg
      split at he
      · rename_i hc
        obtain ⟨rfl, rfl⟩ := hc
        split at he
        · rename_i x hx
          cases he
          obtain ⟨a, b, hu, hk, _⟩ := mapOf_spec hmo
          have K := keyRun_of hEq hk
          obtain ⟨hk1, hk2⟩ := key_of g (fun _ _ h => h) K.flat hx hi
          simp only [Rep] at hm
          have hmv := hm.2 (by rw [hg]; simp)
          obtain ⟨r, ents, clock, h1, h2, h3, h4, h5⟩ := g.row id (.map kk vk) es hg
          rw [h1] at hmv
          subst hmv
          have hlt := (Array.getElem?_eq_some_iff.1 h2).1
          have hob : ob (ψ id) = some r := by rw [h1]; rfl
          have hf := K.find Z w x u2 ents.toList (es.map (·.1)) hk1 hk2 (Ents.keys h3)
          rw [midx_map] at hf
          have fin : ∀ (o : Obj) (es' : List (kk.T × vk.T)) (ents' : Array MapEntry), o = .map ents' clock → Ents Z w kk vk es' ents'.toList → ents'.toList.Sublist ents.toList →
              Next Z ψ hh.get w B0 O N Z ψ (hh.set id (.own (.map kk vk) es')).get { w with heap := w.heap.setIfInBounds r o } := by
            rintro o es' ents' rfl h6 h7
            rw [get_set]
            exact write_own (N := N) g (by rw [hg]; simp) hob hlt (.map ents' clock) (ok := .map kk vk) (x := es') (fun w' hw' sm => ⟨r, ents', clock, h1, by rw [hw']; simp [hlt], Ents.mono h6 (fun _ h => h) sm, h4.sublist h7, fun e he => h5 e (h7.subset he)⟩)
          cases hix : midx kk x es with
          | none =>
            rw [hix] at hf
            refine ⟨_, { w with heap := w.heap.setIfInBounds r (.map ents clock) }, rfl, ?_, ?_⟩
            rotate_left
            · rw [show mdel kk x es = es by simp [mdel, hix]]
              exact fin _ _ ents rfl h3 (List.Sublist.refl _)
            · simp [Builtin.delete_, run_underlying hu, MapKept.run_getObj_map h2, K.check Z w x u2 _ hk1 hk2, hf, MapKept.run_setObj_map _ h2]
          | some j =>
            rw [hix] at hf
            have hj := midx_lt hix
            refine ⟨_, { w with heap := w.heap.setIfInBounds r (.map (ents.eraseIdxIfInBounds j) clock) }, rfl, ?_, ?_⟩
            rotate_left
            · rw [show mdel kk x es = es.eraseIdx j by simp [mdel, hix]]
              refine fin _ _ (ents.eraseIdxIfInBounds j) rfl ?_ ?_
              · rw [Array.toList_eraseIdxIfInBounds]; exact Ents.erase h3 j
              · rw [Array.toList_eraseIdxIfInBounds]; exact List.eraseIdx_sublist _ _
            · simp [Builtin.delete_, run_underlying hu, MapKept.run_getObj_map h2, K.check Z w x u2 _ hk1 hk2, hf, MapKept.run_setObj_map _ h2]
        · cases he
      · cases he
    · cases he
  · cases he

/-- len of a map. -/
theorem lenM_sound {hh : Heap} (g : Good Z ψ h w B0 O) (hsub : ∀ id o, hh.get id = some o → h id = some o) {t ty : TypeId} {x : AV} {u : Value} {e : Eff} (ht : isMapT P t = true) (hx : Rep Z ψ h w x u) (he : opLenM hh x some = some e) :
    ∃ n : Nat, e = .val (.int .i64 (n : Int)) ∧ (Builtin.len_ #[t] ty #[u]).run P w = .ok (.int .i64 (n : Int)) w := by
  unfold opLenM at he
  split at he
  · rename_i kk vk es hv
    cases he
    have hu : ∃ a b, P.underlying t = some (.map a b) := by
      unfold isMapT at ht
      split at ht
      · exact ⟨_, _, by assumption⟩
      · cases ht
    obtain ⟨a, b, hu⟩ := hu
    obtain ⟨A, rfl, hA⟩ := map_src g hsub hx hv
    rcases hA with ⟨rfl, rfl⟩ | ⟨r, ents, clock, rfl, h3, h4⟩
    · exact ⟨0, rfl, by simp [Builtin.len_, run_underlying hu, goInt]⟩
    · refine ⟨es.length, rfl, ?_⟩
      have : ents.size = es.length := by rw [h4.1]; simp
      simp [Builtin.len_, run_underlying hu, MapKept.run_getObj_map h3, goInt, this]
  · cases he

/-- A new map, a new iterator. -/
theorem next_new (g : Good Z ψ h w B0 O) (hB : B0 ≤ w.heap.size) (id : Nat) (hN : N id) {ok : OK} {x : ok.T} {v : Value} (o : Obj) (ho : OwnOb Z (w.alloc o) ok v x) (hb : ob v = some w.heap.size)
    (hment : ∀ i ty cs, h i = some (.box ty cs) → MentL (fun i => i ≠ id) cs) : Next Z ψ h w B0 O N Z (upd ψ id v) (upd h id (some (.own ok x))) (w.alloc o) :=
  next_own g hB id hN (Keep.alloc _ _ _ _) (fun b hb => heap_alloc_old w _ (g.own_lt hb)) ho (fun b hb2 => by rw [hb] at hb2; cases hb2; exact Nat.le_refl _) hment

theorem makeMap_sound {Eqs : TypeId → Option K} (g : Good Z ψ h w B0 O) (hB : B0 ≤ w.heap.size) {id : Nat} (hN : N id) {t : TypeId} {e : Eff} (hment : ∀ i ty cs, h i = some (.box ty cs) → MentL (fun i => i ≠ id) cs) (he : opMakeMap P Eqs id t some = some e) :
    ∃ v w' ψ', (Instr.makeMap t none).run P w = .ok v w' ∧ Next Z ψ h w B0 O N Z ψ' (e.hp h) w' ∧ Rep Z ψ' (e.hp h) w' e.v v := by
  unfold opMakeMap at he
  split at he
  · rename_i kk vk hmo
    cases he
    refine ⟨.map (some w.heap.size), w.alloc (.map #[] 0), upd ψ id (.map (some w.heap.size)), rfl, ?_, ?_⟩
    · simp only [Eff.hp]; rw [get_single]
      exact next_new g hB id hN (ok := .map kk vk) (x := []) _ ⟨w.heap.size, #[], 0, rfl, heap_alloc_new _ _, ⟨rfl, fun i x e h => by simp at h⟩, by simp, by simp⟩ rfl hment
    · simp only [Eff.v, Eff.hp, Rep]
      exact ⟨⟨rfl, rfl⟩, fun _ => (upd_self _ _ _).symm⟩
  · cases he

theorem rangeS_sound (g : Good Z ψ h w B0 O) (hB : B0 ≤ w.heap.size) {id : Nat} (hN : N id) {t : TypeId} {x : AV} {u : Value} {e : Eff} (hx : Rep Z ψ h w x u) (hment : ∀ i ty cs, h i = some (.box ty cs) → MentL (fun i => i ≠ id) cs) (he : opRangeS P id t x some = some e) :
    ∃ v w' ψ', (Instr.range t u).run P w = .ok v w' ∧ Next Z ψ h w B0 O N Z ψ' (e.hp h) w' ∧ Rep Z ψ' (e.hp h) w' e.v v := by
  unfold opRangeS at he
  split at he
  · rename_i sv hu
    cases he
    simp only [Rep] at hx
    subst hx
    refine ⟨.pointer (some ⟨w.heap.size, 0, none⟩), w.alloc (.stringIter sv 0), upd ψ id (.pointer (some ⟨w.heap.size, 0, none⟩)), ?_, ?_, ?_⟩
    · simp only [Instr.range, Sem.run_bind, run_underlying hu, Result.andThen_ok, Sem.run_pure]; rfl
    · simp only [Eff.hp]; rw [get_single]
      exact next_new g hB id hN (ok := .siter) (x := (sv, 0)) _ ⟨w.heap.size, rfl, heap_alloc_new _ _⟩ rfl hment
    · simp only [Eff.v, Eff.hp, Rep]
      exact ⟨⟨rfl, rfl⟩, fun _ => (upd_self _ _ _).symm⟩
  · cases he

theorem run_getObj_any {r : Nat} {o : Obj} (hb : w.heap[r]? = some o) (hc : ∀ c e f, o ≠ .cells c e f) : (getObj r).run P w = .ok o w := by
  cases o <;> first | (exact absurd rfl (hc _ _ _)) | simp [getObj, Sem.run, hb]
theorem run_setObj_any {r : Nat} {o o' : Obj} (hb : w.heap[r]? = some o) (hc : ∀ c e f, o ≠ .cells c e f) : (setObj r o').run P w = .ok () { w with heap := w.heap.setIfInBounds r o' } := by
  cases o <;> first | (exact absurd rfl (hc _ _ _)) | simp [setObj, Sem.run, hb]
theorem nextS_sound {hh : Heap} (g : Good Z ψ h w B0 O) (hsub : ∀ id o, hh.get id = some o → h id = some o) {ty : TypeId} {x : AV} {u : Value} {e : Eff} (hx : Rep Z ψ h w x u) (hwr : ∀ v hw, e = .wr v hw → hh.get = h) (he : opNextS hh x some = some e) :
    ∃ v w', (Instr.next u true ty).run P w = .ok v w' ∧ Next Z ψ h w B0 O N Z ψ (e.hp h) w' ∧ Rep Z ψ (e.hp h) w' e.v v := by
  unfold opNextS at he
  split at he
  · rename_i id
    split at he
    · rename_i x hg
      have hg' := hsub _ _ hg
      simp only [Rep] at hx
      have hu := hx.2 (by rw [hg']; simp)
      obtain ⟨r, h1, h2⟩ := g.row id .siter x hg'
      rw [h1] at hu
      subst hu
      cases hc : decide (x.2 < x.1.size) with
      | true =>
        rw [hc] at he; cases he
        have heq := hwr _ _ rfl
        simp only [decide_eq_true_eq] at hc
        have hlt := (Array.getElem?_eq_some_iff.1 h2).1
        refine ⟨.tuple #[.bool true, goInt x.2, .int .i32 (Utf8.decode x.1 x.2).1], { w with heap := w.heap.setIfInBounds r (.stringIter x.1 (x.2 + (Utf8.decode x.1 x.2).2)) }, ?_, ?_, ?_⟩
        · simp only [Instr.next, Sem.run_bind, run_getObj_any h2 (by simp), Result.andThen_ok, hc, if_true, run_setObj_any h2 (by simp), Sem.run_pure]
        · simp only [Eff.hp]
          rw [get_set, heq]
          exact write_own (N := N) g (by rw [hg']; simp) (by rw [h1]; rfl) hlt _ (ok := .siter) (x := (x.1, x.2 + runeW x.1 x.2)) (fun w' hw' _ => ⟨r, h1, by rw [hw']; simp [hlt, runeW]⟩)
        · simp only [Eff.v, Rep, RepL]
          exact ⟨_, rfl, _, _, rfl, rfl, _, _, rfl, rfl, _, _, rfl, rfl, rfl⟩
      | false =>
        rw [hc] at he; cases he
        simp only [decide_eq_false_iff_not] at hc
        refine ⟨.tuple #[.bool false], w, ?_, Next.refl g, ?_⟩
        · simp only [Instr.next, Sem.run_bind, run_getObj_any h2 (by simp), Result.andThen_ok, hc, if_false, Sem.run_pure]
        · simp only [Eff.v, Rep, RepL]
          exact ⟨_, rfl, _, _, rfl, rfl, rfl⟩
    · cases he
  · cases he

theorem find_born {l : List MapEntry} (h : l.Pairwise (fun a b => a.born ≠ b.born)) {e : MapEntry} (he : e ∈ l) : l.find? (fun x => x.born == e.born) = some e := by
  induction l with
  | nil => cases he
  | cons a r ih =>
    obtain ⟨h1, h2⟩ := List.pairwise_cons.1 h
    rw [List.find?_cons]
    rcases List.mem_cons.1 he with rfl | he
    · simp
    · have : (a.born == e.born) = false := by simpa using h1 e he
      rw [this]; exact ih h2 he
theorem entry_sound {hh : Heap} (g : Good Z ψ h w B0 O) (hsub : ∀ id o, hh.get id = some o → h id = some o) {x : AV} {u : Value} {e : Eff} (hx : Rep Z ψ h w x u) (he : opEntry hh x some = some e) :
    ∃ y v, e = .val y ∧ (Instr.entry u).run P w = .ok v w ∧ Rep Z ψ h w y v := by
  unfold opEntry at he
  split at he
  · rename_i id
    split at he
    · rename_i kk vk c rest hg
      cases he
      have hg' := hsub _ _ hg
      simp only [Rep] at hx
      have hu := hx.2 (by rw [hg']; simp)
      obtain ⟨r, m, since, seen, ents, clock, h1, h2, h3, h4, h5, h6, h7, h8, h9⟩ := g.row id (.iter kk vk) (some c, rest) hg'
      rw [h1] at hu
      subst hu
      obtain ⟨en, h10, h11, h12⟩ := h9
      obtain ⟨⟨k1, k2, k3⟩, v1, v2, v3⟩ := h12.2 0 c en rfl rfl
      refine ⟨_, .tuple #[en.key, en.val], rfl, ?_, ?_⟩
      · have hf : ents.find? (·.born == en.born) = some en := by
          have := find_born h5 h10
          rwa [← Array.find?_toList]
        simp only [Instr.entry, Sem.run_bind, run_getObj_any h2 (by simp), Result.andThen_ok, h11, Sem.run_pure, run_getObj_any h4 (by simp), hf]
        simp
      · simp only [Rep, RepL]
        exact ⟨_, rfl, _, _, rfl, encV_rep k1 k2 k3, _, _, rfl, encV_rep v1 v2 v3, rfl⟩
    · cases he
  · cases he
end Go.Vs

set_option linter.unusedSimpArgs false
set_option linter.unusedVariables false
namespace Go.Vs

variable {P : Program} {Z Z' : Nat → Prop} {ψ ψ' : Nat → Value} {h h' : Hp} {w w' : World} {B0 : Nat} {O : Nat → Prop} {N : Nat → Prop}

mutual
theorem Ment.imp {p q : Nat → Prop} (hpq : ∀ i, p i → q i) : ∀ {a : AV}, Ment p a → Ment q a
  | .no, _ => by simp only [Ment]
  | .bool b, _ => by simp only [Ment]
  | .int k n, _ => by simp only [Ment]
  | .str s, _ => by simp only [Ment]
  | .nilp, _ => by simp only [Ment]
  | .nils, _ => by simp only [Ment]
  | .ref id s i off, h => by simp only [Ment] at h ⊢; exact hpq _ h
  | .fp k x off, _ => by simp only [Ment]
  | .sl ex k xs, _ => by simp only [Ment]
  | .mp kk vk es, _ => by simp only [Ment]
  | .osl id, h => by simp only [Ment] at h ⊢; exact hpq _ h
  | .fn f cap, h => by simp only [Ment] at h ⊢; exact MentL.imp hpq h
  | .agg cs, h => by simp only [Ment] at h ⊢; exact MentL.imp hpq h
  | .tup cs, h => by simp only [Ment] at h ⊢; exact MentL.imp hpq h
theorem MentL.imp {p q : Nat → Prop} (hpq : ∀ i, p i → q i) : ∀ {a : List AV}, MentL p a → MentL q a
  | [], _ => by simp only [MentL]
  | a :: r, h => by simp only [MentL] at h ⊢; exact ⟨Ment.imp hpq h.1, MentL.imp hpq h.2⟩
end
theorem Ment.cells {p : Nat → Prop} {a : AV} (h : Ment p a) : MentL p a.cells := by
  cases a with
  | agg cs => simpa only [AV.cells, Ment] using h
  | _ => simp only [AV.cells, MentL]; exact ⟨h, trivial⟩

theorem noOsl_spec : ∀ {cs : List AV}, noOsl cs = true → ∀ id, AV.osl id ∉ cs
  | [], _, id => by simp
  | c :: r, hn, id => by
    intro hm
    cases c with
    | osl i => simp [noOsl] at hn
    | _ =>
      simp only [noOsl] at hn
      rcases List.mem_cons.1 hm with e | hm
      · cases e
      · exact noOsl_spec hn id hm
theorem noOsls_spec : ∀ {vs : List AV}, noOsls vs = true → ∀ v ∈ vs, ∀ id, AV.osl id ∉ v.cells
  | [], _, v, hv => by simp at hv
  | a :: r, hn, v, hv => by
    simp only [noOsls, Bool.and_eq_true] at hn
    rcases List.mem_cons.1 hv with rfl | hv
    · exact noOsl_spec hn.1
    · exact noOsls_spec hn.2 v hv

/-- What a call of a function is known to be (elsewhere); here: nothing is asked. -/
def isFnCall (o : Oper) : Bool :=
  match o.op with
  | .call { callee := .value _, .. } => true
  | _ => false

theorem optRep {s : List (Nat × AV)} {ρC : Operand → Value} {x : Option Operand} (hx : ∀ y, x = some y → Rep Z ψ h w (ρ s y) (ρC y)) : OptRep Z ψ h w (x.map (ρ s)) (x.map ρC) := by
  cases x with
  | none => trivial
  | some y => exact hx y rfl

/-- Parts of a literal whose values are known. -/
theorem parts_of {s : List (Nat × AV)} {ρC : Operand → Value} : ∀ (ps : List (Nat × Operand)), (∀ p ∈ ps, Rep Z ψ h w (ρ s p.2) (ρC p.2)) → (∀ p ∈ ps, ρ s p.2 ≠ .no) → Parts Z ψ h w (ps.map fun p => (p.1, ρ s p.2)) (ps.map fun p => (p.1, ρC p.2))
  | [], _, _ => trivial
  | p :: r, h1, h2 => ⟨rfl, h2 p (by simp), h1 p (by simp), parts_of r (fun q hq => h1 q (List.mem_cons_of_mem _ hq)) (fun q hq => h2 q (List.mem_cons_of_mem _ hq))⟩
theorem litRow_no {k : K} {hh : Heap} : ∀ {ps : List (Nat × AV)} {i : Nat} {xs : List k.T}, litRow k hh i ps = some xs → ∀ p ∈ ps, p.2 ≠ .no
  | [], _, _, _, p, hp => by simp at hp
  | (j, v) :: r, i, xs, hl, p, hp => by
    simp only [litRow] at hl
    split at hl
    · split at hl
      · rename_i x ys h1 h2
        rcases List.mem_cons.1 hp with rfl | hp
        · exact decOne_no h1
        · exact litRow_no h2 p hp
      · cases hl
    · cases hl

theorem two_of {α : Type} {l : List α} (h : l.length = 0 + 1 + 1) : ∃ x y, l = [x, y] := by
  cases l with
  | nil => simp at h
  | cons a r => cases r with
    | nil => simp at h
    | cons b s => cases s with
      | nil => exact ⟨a, b, rfl⟩
      | cons c q => simp at h
theorem notNo_spec {a : AV} (h : notNo a = true) : a ≠ .no := by rintro rfl; cases h

section
variable {Eqs : TypeId → Option K} {Sg : FuncId → Option Sig} {F : (f : FuncId) → (g : Sig) → g.A → Option g.B}

theorem append_sound {hh : Heap} {ρC : Operand → Value} {o : Oper} (g : Good Z ψ h w B0 O) (hB : B0 ≤ w.heap.size) (hsub : ∀ id o, hh.get id = some o → h id = some o) {id : Nat} (hN : N id) {t : TypeId} {s x : AV} {u v : Value} {e : Eff}
    (hs : Rep Z ψ h w s u) (hx : Rep Z ψ h w x v) (hms : Ment (fun i => ¬ N i) s) (hment : ∀ i ty cs, h i = some (.box ty cs) → MentL (fun i => ¬ N i) cs) (hwr : ∀ v hw, e = .wr v hw → hh.get = h) (he : opAppend P hh id t s x some = some e)
    (hrun : ∀ V w', (Builtin.append_ #[t, t] o.type #[u, v]).run P w = .ok V w' → (execOp ρC o).run P w = .ok (.value V) w') : Done P ρC o Z ψ h w B0 O N e := by
  have hme : ∀ i ty cs, h i = some (.box ty cs) → MentL (fun i => i ≠ id) cs := fun i ty cs hb => (hment i ty cs hb).imp (fun j hj e => hj (by rw [e]; exact hN))
  unfold opAppend at he
  split at he
  · cases he
  · rename_i et het
    have ht := under_of_elem het
    split at he
    · cases he
    · rename_i kk hkk
      split at he
      · rename_i ys hys hok
        obtain ⟨inf, z, hel⟩ := elemOk_spec hok
        split at he
        · -- nil
          cases hc : fitsN 0 ys.length with
          | false => rw [hc] at he; cases he
          | true =>
            rw [hc] at he; cases he
            simp only [fitsN, decide_eq_true_eq] at hc
            simp only [Rep] at hs
            subst hs
            obtain ⟨V, w', h1, h2, h3⟩ := next_append_nil (P := P) (ty := o.type) g hsub hB hN ht hel hys hx (by omega) hme
            refine ⟨V, w', Z, _, .inl (hrun V w' h1), by simp only [Eff.hp]; rw [get_single]; exact h2, ?_⟩
            simp only [Eff.v, Eff.hp, Rep]
            exact ⟨h3, fun _ => (upd_self _ _ _).symm⟩
        · -- one's own
          rename_i old
          split at he
          · rename_i e' k' xs hg
            split at he
            · rename_i hc
              obtain ⟨rfl, rfl⟩ := hc
              cases hc2 : fitsN xs.length ys.length with
              | false => rw [hc2] at he; cases he
              | true =>
                rw [hc2] at he; cases he
                simp only [fitsN, decide_eq_true_eq] at hc2
                have heq := hwr _ _ rfl
                have hg' := hsub _ _ hg
                simp only [Rep] at hs
                have hu := hs.2 (by rw [hg']; simp)
                subst hu
                simp only [Ment] at hms
                obtain ⟨V, w', h1, h2, h3⟩ := next_append_own (P := P) (ty := o.type) g hsub hB hN (fun e => hms (by rw [e]; exact hN)) ht hel hg' hys hx hc2 hme
                refine ⟨V, w', Z, _, .inl (hrun V w' h1), by simp only [Eff.hp]; rw [get_set, get_del, heq]; exact h2, ?_⟩
                simp only [Eff.v, Eff.hp, Rep]
                exact ⟨h3, fun _ => (upd_self _ _ _).symm⟩
            · cases he
          · cases he
        · -- data cut at its end
          rename_i ex k' xs
          split at he
          · rename_i hc
            subst hc
            cases hc2 : (ex && ((!ys.isEmpty || xs.isEmpty) && fitsN xs.length ys.length)) with
            | false => rw [hc2] at he; cases he
            | true =>
              rw [hc2] at he; cases he
              simp only [Bool.and_eq_true, Bool.or_eq_true, fitsN, decide_eq_true_eq, Bool.not_eq_true', List.isEmpty_eq_false_iff, List.isEmpty_iff] at hc2
              obtain ⟨rfl, hne, hfit⟩ := hc2
              obtain ⟨V, w', h1, h2, h3⟩ := next_append_ex (P := P) (ty := o.type) g hsub hB hN ht hel hs hys hx (hne.imp List.length_pos_iff.2 (fun h => h)) hfit hme
              refine ⟨V, w', Z, _, .inl (hrun V w' h1), by simp only [Eff.hp]; rw [get_single]; exact h2, ?_⟩
              simp only [Eff.v, Eff.hp, Rep]
              exact ⟨h3, fun _ => (upd_self _ _ _).symm⟩
          · cases he
        · cases he
      · cases he

theorem make_sound {ρC : Operand → Value} {o : Oper} (g : Good Z ψ h w B0 O) (hB : B0 ≤ w.heap.size) {id : Nat} (hN : N id) {t : TypeId} {vs : List AV} {us : Array Value} {e : Eff} (hr : RepL Z ψ h w vs us.toList) (h1 : ∀ u ∈ us.toList, u.oneCell' = true)
    (hm : MentL (fun i => ¬ N i) vs) (hment : ∀ i ty cs, h i = some (.box ty cs) → MentL (fun i => ¬ N i) cs) (he : opMake id t vs some = some e)
    (hrun : (execOp ρC o).run P w = .ok (.value (.pointer (some ⟨w.heap.size, 0, none⟩))) (w.alloc (.cells us t))) : Done P ρC o Z ψ h w B0 O N e := by
  unfold opMake at he
  cases he
  have hne : ∀ i, ¬ N i → i ≠ id := fun j hj e => hj (by rw [e]; exact hN)
  have n := next_box (N := N) g hB id t hN hr h1 (fun i ty cs hb => (hment i ty cs hb).imp hne) (hm.imp hne)
  refine ⟨_, _, Z, _, .inl hrun, by simp only [Eff.hp]; rw [get_single]; exact n, ?_⟩
  simp only [Eff.v, Eff.hp, Rep]
  exact ⟨_, rfl, fun _ => by rw [upd_self]; simp [blk]⟩

theorem lit_sound {hh : Heap} {ρC : Operand → Value} {s : List (Nat × AV)} {o : Oper} (g : Good Z ψ h w B0 O) (hB : B0 ≤ w.heap.size) (hsub : ∀ id o, hh.get id = some o → h id = some o) {id : Nat} (hN : N id) {t : TypeId} {n : Nat} {ps : Array (Nat × Operand)} {e : Eff}
    (hρ : ∀ p ∈ ps.toList, Rep Z ψ h w (ρ s p.2) (ρC p.2)) (hment : ∀ i ty cs, h i = some (.box ty cs) → MentL (fun i => ¬ N i) cs) (frz : Bool) {e0 : Eff} (hef : e = if frz then frzE e0 else e0) (hwr : ∀ v hw, e = .wr v hw → hh.get = h) (he : opLit P hh id t n (ps.toList.map fun p => (p.1, ρ s p.2)) some = some e0)
    (hrun : ∀ V w', (Instr.buildSlice t n (ps.map fun p => (p.1, ρC p.2))).run P w = .ok V w' → (execOp ρC o).run P w = .ok (.value V) w') : Done P ρC o Z ψ h w B0 O N e := by
  have hme : ∀ i ty cs, h i = some (.box ty cs) → MentL (fun i => i ≠ id) cs := fun i ty cs hb => (hment i ty cs hb).imp (fun j hj e => hj (by rw [e]; exact hN))
  unfold opLit at he
  split at he
  · cases he
  · rename_i et het
    have ht := under_of_elem het
    split at he
    · cases he
    · rename_i k hk
      split at he
      · cases he
      · cases he
      · rename_i xs hrow hok
        obtain ⟨inf, z, hel⟩ := elemOk_spec hok
        have hparts := parts_of (Z := Z) (ψ := ψ) (h := h) (w := w) ps.toList hρ (fun p hp => litRow_no hrow (p.1, ρ s p.2) (List.mem_map.2 ⟨p, hp, rfl⟩))
        have hparts' : Parts Z ψ hh.get w (ps.toList.map fun p => (p.1, ρ s p.2)) (ps.map fun p => (p.1, ρC p.2)).toList := by
          rw [Array.toList_map]; exact hparts.subH hsub
        split at he
        · rename_i hc
          obtain ⟨rfl, hn⟩ := hc
          cases hno : noOsls ((ps.toList.map fun p => (p.1, ρ s p.2)).map (·.2)) with
          | true =>
            rw [hno] at he; cases he
            have hno' := noOsls_spec hno
            obtain ⟨V, w', h1, h2, h3⟩ := next_lit (P := P) (N := N) g (g.sub hsub) (fun _ h => h) hB hN ht hel (fun p hp i b hm => absurd hm (hno' p.2 (List.mem_map.2 ⟨p, hp, rfl⟩) i)) hparts' hrow hn hme
            cases frz with
            | false =>
              have hef : e = .new (.osl id) [(id, .own (.row et k) xs)] := hef
              subst hef
              refine ⟨V, w', Z, _, .inl (hrun V w' h1), by simp only [Eff.hp]; rw [get_single]; exact h2, ?_⟩
              simp only [Eff.v, Eff.hp, Rep]
              exact ⟨h3.1, fun _ => (upd_self _ _ _).symm⟩
            | true =>
              have hef : e = .new (.sl true k xs) [] := hef
              subst hef
              obtain ⟨m1, m2⟩ := next_frz g hB h2 h3.2.1 h3.2.2.1 h3.2.2.2
              have e1 : (Eff.new (.sl true k xs) []).hp h = h := by funext i; simp [Eff.hp, Heap.get]
              refine ⟨V, w', _, _, .inl (hrun V w' h1), by rw [e1]; exact m1, ?_⟩
              rw [e1]; exact m2
          | false =>
            rw [hno] at he; cases he
            have hef : e = .wr (.osl id) ((id, .own (.row et k) xs) :: drops hh ((ps.toList.map fun p => (p.1, ρ s p.2)).flatMap (·.2.cells))) := by
              rw [hef]; cases frz <;> rfl
            subst hef
            have heq := hwr _ _ rfl
            subst heq
            let cs := (ps.toList.map fun p => (p.1, ρ s p.2)).flatMap (·.2.cells)
            have gd := drops_good g cs
            obtain ⟨V, w', h1, h2, h3⟩ := next_lit (P := P) (N := N) gd g (fun b hb => .inl hb) hB hN ht hel (fun p hp i b hm hne hb => .inr ⟨i, List.mem_flatMap.2 ⟨p, hp, hm⟩, hne, hb⟩) hparts' hrow hn (fun i ty cs' hb => hme i ty cs' (drops_sub _ _ _ _ hb))
            refine ⟨V, w', Zof Z ψ hh.get cs, upd ψ id V, .inl (hrun V w' h1), ?_, ?_⟩
            · simp only [Eff.hp]
              rw [get_cons]
              exact h2.drop (fun b hb => .inl hb) (fun b hb => hb.imp (fun h => h) (fun ⟨i, _, h5, h6⟩ => ⟨i, h5, h6⟩)) (drops_sub _ _)
            · simp only [Eff.v, Eff.hp, Rep]
              exact ⟨h3.1, fun _ => (upd_self _ _ _).symm⟩
        · cases he

theorem litF_some {frz : Bool} {h : Heap} {id : Nat} {t : TypeId} {n : Nat} {ps : List (Nat × AV)} {e : Eff} (he : opLitF P frz h id t n ps some = some e) : ∃ e0, opLit P h id t n ps some = some e0 ∧ e = if frz then frzE e0 else e0 := by
  unfold opLitF opLit at he
  unfold opLit
  split at he
  · cases he
  split at he
  · cases he
  split at he
  · cases he
  · cases he
  split at he
  · rename_i hc
    rw [if_pos hc]
    cases hno : noOsls (ps.map (·.2)) with
    | true => rw [hno] at he; exact ⟨_, rfl, (Option.some.inj he).symm⟩
    | false => rw [hno] at he; exact ⟨_, rfl, (Option.some.inj he).symm⟩
  · cases he

theorem ofV_ment (p : Nat → Prop) (v : Value) : Ment p (ofV v) := by
  cases v with
  | pointer a => simp only [ofV]; split <;> simp only [Ment]
  | slice a n c => simp only [ofV]; split <;> simp only [Ment]
  | func fn first cap =>
    cases fn with
    | func f => simp only [ofV]; split <;> simp only [Ment, MentL]
    | _ => simp only [ofV, Ment]
  | _ => simp only [ofV, Ment]
theorem ofV_mentL (p : Nat → Prop) : ∀ vs : List Value, MentL p (vs.map ofV)
  | [] => by simp [MentL]
  | v :: r => by simp only [List.map_cons, MentL]; exact ⟨ofV_ment p v, ofV_mentL p r⟩
theorem ofVs_ment (p : Nat → Prop) (v : Value) : MentL p (ofVs v).cells := by
  cases v with
  | agg cs => simp only [ofVs, AV.cells]; exact ofV_mentL p _
  | _ => simp only [ofVs]; rw [ofV_cells]; simp only [MentL]; exact ⟨ofV_ment p _, trivial⟩

/-- Every operation but a call of a function. -/
theorem op_sound (hEq : ∀ t k, Eqs t = some k → EqFact P t k) {hh : Heap} {ρC : Operand → Value} {s : List (Nat × AV)} {o : Oper} (g : Good Z ψ h w B0 O) (hB : B0 ≤ w.heap.size) (hsub : ∀ id o, hh.get id = some o → h id = some o) {id : Nat} (hN : makes o.op = true → N id) {e : Eff}
    (hρ : ∀ x ∈ o.op.operands, Rep Z ψ h w (ρ s x) (ρC x)) (hm : ∀ x ∈ o.op.operands, Ment (fun i => ¬ N i) (ρ s x)) (hment : ∀ i ty cs, h i = some (.box ty cs) → MentL (fun i => ¬ N i) cs) (hwr : ∀ v hw, e = .wr v hw → hh.get = h)
    (hfc : isFnCall o = false) (he : opSem P Eqs Sg F id hh s o some = some e) : Done P ρC o Z ψ h w B0 O N e := by
  obtain ⟨dst, op, type, pos, after, guard⟩ := o
  have two : ∀ {a b : Operand}, (∀ x ∈ (#[a, b] : Array Operand), Rep Z ψ h w (ρ s x) (ρC x)) → Rep Z ψ h w (ρ s a) (ρC a) ∧ Rep Z ψ h w (ρ s b) (ρC b) := fun hx => ⟨hx _ (by simp), hx _ (by simp)⟩
  cases op <;> simp only [opSem] at he <;> simp only [Op.operands] at hρ hm <;> first | (cases he; done) | skip
  case move x => cases he; exact Done.val g (V := ρC x) (by simp [execOp]) (hρ x (by simp))
  case assign x => cases he; exact Done.val g (V := ρC x) (by simp [execOp]) (hρ x (by simp))
  case pick c a b =>
    have h1 := hρ c (by simp); have h2 := hρ a (by simp); have h3 := hρ b (by simp)
    split at he
    · rename_i t ht
      cases he
      rw [ht] at h1
      simp only [Rep] at h1
      refine Done.val g (V := if t then ρC a else ρC b) (by simp [execOp, h1, asBool]) ?_
      unfold pickA
      split
      · rename_i p q hp hq
        rw [hp] at h2; rw [hq] at h3
        simp only [Rep] at h2 h3 ⊢
        cases t <;> simp [h2, h3]
      · cases t
        · exact h3
        · exact h2
    · cases he
  case alloc t =>
    split at he
    · rename_i z hz
      obtain ⟨i, zv, hi, hzz, rfl, h1⟩ := zeroA_spec hz
      exact make_sound (us := zv.cells) g hB (hN rfl) (ofVs_cells zv) h1 (ofVs_ment _ zv) hment he (by simp [execOp, Instr.alloc, run_zero hi hzz, newVar, newRow, newObj, Sem.run])
    · cases he
  case box t x =>
    have h1 := hρ x (by simp)
    split at he
    · rename_i hp
      have hc := h1.cells (plain_no hp)
      exact make_sound (us := (ρC x).cells) g hB (hN rfl) hc (plain_ones hp hc) (hm x (by simp)).cells hment he (by simp [execOp, Instr.box, newVar, newRow, newObj, Sem.run])
    · cases he
  case build t ps =>
    unfold opBuild at he
    split at he
    · rename_i z fs hz hf
      split at he
      · rename_i cs hfill hall
        cases he
        simp only [Bool.and_eq_true] at hall
        obtain ⟨hall, hnn⟩ := hall
        have hall' : fs.toList.all (fun f => (P.info? f.type).isSome) = true := hall
        have hρ' : ∀ p ∈ ps.toList, Rep Z ψ h w (ρ s p.2) (ρC p.2) := fun p hp => hρ p.2 (by simp; exact ⟨p.1, by simpa using hp⟩)
        have hparts := parts_of (Z := Z) (ψ := ψ) (h := h) (w := w) ps.toList hρ' (fun p hp => notNo_spec (List.all_eq_true.1 hnn (p.1, ρ s p.2) (List.mem_map.2 ⟨p, hp, rfl⟩)))
        obtain ⟨V, h1, h2⟩ := build_rep (P := P) (qs := ps.map fun p => (p.1, ρC p.2)) hz hf hall' (by rw [Array.toList_map]; exact hparts) hfill
        exact Done.val g (V := V) (by simp only [execOp, Sem.run_bind]; rw [h1]; simp) h2
      · cases he
    · cases he
  case buildSlice t n ps =>
    have hρ' : ∀ p ∈ ps.toList, Rep Z ψ h w (ρ s p.2) (ρC p.2) := fun p hp => hρ p.2 (by simp; exact ⟨p.1, by simpa using hp⟩)
    obtain ⟨e0, h0, h1⟩ := litF_some he
    exact lit_sound g hB hsub (hN rfl) hρ' hment ((Sg (900000 + t)).isSome) h1 hwr h0 (fun V w' h1 => by simp only [execOp, Sem.run_bind]; rw [h1]; simp)
  case load t a =>
    obtain ⟨x, V, rfl, h1, h2⟩ := load_sound g hsub (hρ a (by simp)) he
    exact Done.val g (V := V) (by simp [execOp, h1]) h2
  case store t a v =>
    obtain ⟨h1, h2⟩ := two hρ
    have hw : ∃ hw, e = .wr .no hw := by
      obtain ⟨hw, _, _, h3, _⟩ := store_sound (P := P) (N := N) (g.sub hsub) (h1.subH hsub) (h2.subH hsub) he
      exact ⟨hw, h3⟩
    obtain ⟨hw, rfl⟩ := hw
    have heq := hwr _ _ rfl
    subst heq
    obtain ⟨hw', w', Z', h3, h4, h5⟩ := store_sound (P := P) (N := N) g h1 h2 he
    cases h3
    exact ⟨undef, w', Z', ψ, .inr ⟨by simp [execOp, h4], rfl⟩, h5, by simp only [Eff.v, Rep]⟩
  case nilCheck x =>
    have h1 := hρ x (by simp)
    split at he
    · rename_i id s i off hx
      cases he
      rw [hx] at h1
      have h2 := h1
      simp only [Rep] at h1
      obtain ⟨a, ha, _⟩ := h1
      exact Done.val g (V := ρC x) (by simp [execOp, ha]) h2
    · rename_i k y off hx
      cases he
      rw [hx] at h1
      have h2 := h1
      simp only [Rep] at h1
      obtain ⟨a, us, ha, _⟩ := h1
      exact Done.val g (V := ρC x) (by simp [execOp, ha]) h2
    · rename_i f cap hx
      cases he
      rw [hx] at h1
      have h2 := h1
      simp only [Rep] at h1
      obtain ⟨vs, ha, _⟩ := h1
      exact Done.val g (V := ρC x) (by simp [execOp, ha]) h2
    · cases he
  case binOp op t x y yt =>
    obtain ⟨h1, h2⟩ := two hρ
    obtain ⟨r, V, rfl, h3, h4⟩ := bin_sound hEq (xo := x) (yo := y) h1 h2 he
    exact Done.val g (V := V) (by simp only [execOp, Sem.run_bind] at h3 ⊢; rw [h3]; simp) h4
  case unOp op t x =>
    have h1 := hρ x (by simp)
    cases op <;> simp only at he <;> first | (cases he; done) | skip
    split at he
    · rename_i b hx
      cases he
      rw [hx] at h1
      simp only [Rep] at h1
      exact Done.val g (V := .bool (!b)) (by simp [execOp, h1, Op.unary]) (by simp only [Rep])
    · cases he
  case convert src dst x =>
    have h1 := hρ x (by simp)
    unfold opConv at he
    split at he
    · rename_i k1 k2 k3 n hs hd hx
      cases he
      rw [hx] at h1
      simp only [Rep] at h1
      exact Done.val g (V := .int k2 (k2.wrap n)) (by simp [execOp, h1, convert, run_underlying hs, run_underlying hd, Conv.intToInt]) (by simp only [Rep])
    · rename_i sv hs hd hx
      cases he
      rw [hx] at h1
      have h2 := h1
      simp only [Rep] at h1
      exact Done.val g (V := ρC x) (by simp [execOp, h1, convert, run_underlying hs, run_underlying hd]) h2
    · cases he
  case makeFunc fn first cap =>
    cases fn <;> simp only at he <;> first | (cases he; done) | skip
    rename_i f
    split at he
    · rename_i hf
      cases he
      have h0 : first = #[] := Array.eq_empty_of_size_eq_zero hf
      subst h0
      have hl : ∀ l : List Operand, (∀ x ∈ l, Rep Z ψ h w (ρ s x) (ρC x)) → RepL Z ψ h w (l.map (ρ s)) (l.map ρC) := by
        intro l
        induction l with
        | nil => intro _; simp [RepL]
        | cons a r ih => intro ha; simp only [List.map_cons, RepL]; exact ⟨_, _, rfl, ha a (by simp), ih (fun x hx => ha x (List.mem_cons_of_mem _ hx))⟩
      exact Done.val g (V := .func (.func f) #[] (cap.map ρC)) (by simp [execOp, Instr.makeFunc]) (by simp only [Rep]; exact ⟨_, rfl, by rw [Array.toList_map]; exact hl _ (fun x hx => hρ x (by simp; simpa using hx))⟩)
    · cases he
  case slice t x lo hi mx =>
    have h1 := hρ x (by simp)
    have h2 : OptRep Z ψ h w (lo.map (ρ s)) (lo.map ρC) := optRep (fun y hy => hρ y (by subst hy; simp))
    have h3 : OptRep Z ψ h w (hi.map (ρ s)) (hi.map ρC) := optRep (fun y hy => hρ y (by subst hy; simp))
    have h4 : OptRep Z ψ h w (mx.map (ρ s)) (mx.map ρC) := optRep (fun y hy => hρ y (by subst hy; simp))
    split at he
    · rename_i ht
      unfold opCutS at he
      split at he
      · rename_i sv hx hmx
        split at he
        · rename_i l u hb
          cases ho : okBounds sv.size l u with
          | false => rw [ho] at he; cases he
          | true =>
            rw [ho] at he; cases he
            rw [hx] at h1
            simp only [Rep] at h1
            have hm0 : mx = none := by cases mx with
              | none => rfl
              | some m => simp at hmx
            subst hm0
            have hrun := run_bounds (P := P) (w := w) (b := false) (Nat.le_refl sv.size) h2 h3 (mx := none) (mx' := none) trivial hb ho (.inl rfl)
            exact Done.val g (V := .string (cutB sv l u)) (by simp [execOp, Instr.sliceAt, Instr.slice, run_underlying ht, h1, hrun, cutB]) (by simp only [Rep])
        · cases he
      · cases he
    · rename_i et ht
      split at he
      · rename_i hse
        obtain ⟨V, Z', h5, h6, h7⟩ := slice_sound (P := P) (N := N) g hsub ht h1 h2 h3 h4 hwr he hse
        exact ⟨V, w, Z', ψ, .inl (by simp [execOp, h5]), h6, h7⟩
      · cases he
    · cases he
  case fieldAddr t x f =>
    have h1 := hρ x (by simp)
    split at he
    · rename_i n ft id sz i off hf hx
      split at he
      · cases he
      · rename_i hc
        cases he
        rw [hx] at h1
        obtain ⟨V, h2, h3⟩ := fieldAddr_ref (P := P) hf hc h1
        exact Done.val g (V := V) (by simp [execOp, h2]) h3
    · rename_i n ft k y off hf hx
      split at he
      · cases he
      · rename_i hc
        cases he
        rw [hx] at h1
        obtain ⟨V, h2, h3⟩ := fieldAddr_fp (P := P) hf hc h1
        exact Done.val g (V := V) (by simp [execOp, h2]) h3
    · cases he
  case field t x f =>
    have h1 := hρ x (by simp)
    split at he
    · rename_i n ft cs hf hx
      split at he
      · rename_i v hv
        cases he
        rw [hx] at h1
        obtain ⟨V, h2, h3⟩ := field_sound (P := P) hf h1 hv
        exact Done.val g (V := V) (by simp [execOp, h2]) h3
      · cases he
    · cases he
  case indexAddr t x i =>
    obtain ⟨h1, h2⟩ := two hρ
    obtain ⟨y, V, rfl, h3, h4⟩ := indexAddr_sound g hsub h1 h2 he
    exact Done.val g (V := V) (by simp [execOp, h3]) h4
  case index t x i =>
    obtain ⟨h1, h2⟩ := two hρ
    split at he
    · rename_i sv ik n ht hx hi
      obtain ⟨c, hc, he2⟩ := Option.bind_eq_some_iff.1 he
      cases he2
      rw [hx] at h1; rw [hi] at h2
      simp only [Rep] at h1 h2
      exact Done.val g (V := .int .u8 (c.toNat : Int)) (by simp [execOp, Instr.index, asIntOf, run_underlying ht, h1, h2, hc]) (by simp only [Rep])
    · cases he
  case extract t i =>
    have h1 := hρ t (by simp)
    split at he
    · rename_i vs hx
      split at he
      · rename_i v hv
        cases he
        rw [hx] at h1
        simp only [Rep] at h1
        obtain ⟨us, hu, hl⟩ := h1
        obtain ⟨u, h2, h3⟩ := hl.get i hv
        exact Done.val g (V := u) (by simp [execOp, Instr.extract, hu, show us[i]? = some u by simpa using h2]) h3
      · cases he
    · cases he
  case makeMap t r =>
    cases r with
    | some r => cases he
    | none =>
      simp only at he
      have hme : ∀ i ty cs, h i = some (.box ty cs) → MentL (fun i => i ≠ id) cs := fun i ty cs hb => (hment i ty cs hb).imp (fun j hj e => hj (by rw [e]; exact hN rfl))
      obtain ⟨V, w', ψ', h1, h2, h3⟩ := makeMap_sound g hB (hN rfl) hme he
      exact ⟨V, w', Z, ψ', .inl (by simp [execOp, h1]), h2, h3⟩
  case lookup t m i ok =>
    obtain ⟨h1, h2⟩ := two hρ
    obtain ⟨y, V, rfl, h3, h4⟩ := lookup_sound hEq g hsub h1 h2 he
    exact Done.val g (V := V) (by simp [execOp, h3]) h4
  case mapUpdate t m i v =>
    have h1 := hρ m (by simp); have h2 := hρ i (by simp); have h3 := hρ v (by simp)
    have hw : ∃ hw, e = .wr (.tup []) hw := by
      obtain ⟨hw, _, _, h4, _⟩ := update_sound (N := N) hEq (g.sub hsub) (h1.subH hsub) (h2.subH hsub) (h3.subH hsub) he
      exact ⟨hw, h4⟩
    obtain ⟨hw, rfl⟩ := hw
    have heq := hwr _ _ rfl
    subst heq
    obtain ⟨hw', w', Z', h4, h5, h6⟩ := update_sound (N := N) hEq g h1 h2 h3 he
    cases h4
    exact ⟨undef, w', Z', ψ, .inr ⟨by simp [execOp, h5], rfl⟩, h6, by simp only [Eff.v, Rep, RepL]; exact ⟨#[], rfl, rfl⟩⟩
  case range t x =>
    have hme : ∀ i ty cs, h i = some (.box ty cs) → MentL (fun i => i ≠ id) cs := fun i ty cs hb => (hment i ty cs hb).imp (fun j hj e => hj (by rw [e]; exact hN rfl))
    obtain ⟨V, w', ψ', h1, h2, h3⟩ := rangeS_sound g hB (hN rfl) (hρ x (by simp)) hme he
    exact ⟨V, w', Z, ψ', .inl (by simp [execOp, h1]), h2, h3⟩
  case next x b =>
    cases b with
    | false => cases he
    | true =>
      obtain ⟨V, w', h1, h2, h3⟩ := nextS_sound (P := P) (N := N) (ty := type) g hsub (hρ x (by simp)) hwr he
      exact ⟨V, w', Z, ψ, .inl (by simp [execOp, h1]), h2, h3⟩
  case entry x =>
    obtain ⟨y, V, rfl, h1, h2⟩ := entry_sound (P := P) g hsub (hρ x (by simp)) he
    exact Done.val g (V := V) (by simp [execOp, h1]) h2
  case call c =>
    obtain ⟨callee, args, argTypes⟩ := c
    cases callee with
    | value f => simp [isFnCall] at hfc
    | invoke r m => simp only at he; cases he
    | builtin b =>
      have hargs : ∀ x ∈ args.toList, Rep Z ψ h w (ρ s x) (ρC x) := fun x hx => hρ x (by simp only [Call.operands]; exact Array.mem_append.2 (.inr (by simpa using hx)))
      have hmargs : ∀ x ∈ args.toList, Ment (fun i => ¬ N i) (ρ s x) := fun x hx => hm x (by simp only [Call.operands]; exact Array.mem_append.2 (.inr (by simpa using hx)))
      obtain ⟨args⟩ := args
      obtain ⟨argTypes⟩ := argTypes
      simp only at he hargs hmargs
      cases b <;> simp only at he <;> first | (cases he; done) | skip
      case append =>
        split at he
        · rename_i l1 l2 x y t t'
          split at he
          · rename_i htt
            subst htt
            exact append_sound g hB hsub (hN rfl) (hargs x (by simp)) (hargs y (by simp)) (hmargs x (by simp)) hment hwr he (fun V w' h1 => by
              simp only [execOp, resolve, invoke, builtin, Sem.run_bind, Sem.run_pure, Result.andThen_ok, List.map_toArray, List.map_cons, List.map_nil, h1])
          · cases he
        · cases he
      case delete =>
        split at he
        · rename_i l1 l2 m x t ts
          have h1 := hargs m (by simp); have h2 := hargs x (by simp)
          have hw : ∃ hw, e = .wr (.tup []) hw := by
            obtain ⟨hw, _, h4, _⟩ := delete_sound (N := N) (ty := type) (ts := ts) hEq (g.sub hsub) (h1.subH hsub) (h2.subH hsub) he
            exact ⟨hw, h4⟩
          obtain ⟨hw, rfl⟩ := hw
          have heq := hwr _ _ rfl
          subst heq
          obtain ⟨hw', w', h4, h5, h6⟩ := delete_sound (N := N) (ty := type) (ts := ts) hEq g h1 h2 he
          cases h4
          exact ⟨.tuple #[], w', Z, ψ, .inl (by simp only [execOp, resolve, invoke, builtin, Sem.run_bind, Sem.run_pure, Result.andThen_ok, List.map_toArray, List.map_cons, List.map_nil, h5]), h6, by simp only [Eff.v, Rep, RepL]; exact ⟨#[], rfl, rfl⟩⟩
        · cases he
      case len =>
        split at he
        · rename_i l1 l2 x t
          split at he
          · rename_i htm
            obtain ⟨n, rfl, h1⟩ := lenM_sound (P := P) (ty := type) g hsub htm (hargs x (by simp)) he
            exact Done.val g (V := .int .i64 (n : Int)) (by simp only [execOp, resolve, invoke, builtin, Sem.run_bind, Sem.run_pure, Result.andThen_ok, List.map_toArray, List.map_cons, List.map_nil, h1]) (by simp only [Rep])
          split at he
          · rename_i hlt
            obtain ⟨n, rfl, h1⟩ := len_sound g hsub (hargs x (by simp)) he
            refine Done.val g (V := .int .i64 (n : Int)) ?_ (by simp only [Rep])
            rcases h1 with ⟨sv, h2, h3, rfl⟩ | ⟨A, c, h3⟩
            · unfold lenT at hlt
              rw [h2] at hlt
              split at hlt
              · rename_i hu _
                simp [execOp, resolve, invoke, builtin, Builtin.len_, run_underlying hu, h3, goInt]
              · cases hlt
              · rename_i h9; exact (h9 _ rfl).elim
              · cases hlt
            · have hu : ∃ e, P.underlying t = some (.slice e) := by
                have h4 := hargs x (by simp)
                rw [h3] at h4
                unfold lenT at hlt
                split at hlt
                · rename_i sv _ hxx
                  rw [hxx] at h4; simp only [Rep] at h4; cases h4
                · cases hlt
                · rename_i e _ hu _; exact ⟨_, hu⟩
                · cases hlt
              obtain ⟨e, hu⟩ := hu
              simp [execOp, resolve, invoke, builtin, Builtin.len_, run_underlying hu, h3, goInt]
          · cases he
        · cases he
      all_goals
        unfold opMM at he
        split at he
        · rename_i k a k' b hxy
          have hl := congrArg List.length hxy
          simp only [List.length_map, List.length_cons, List.length_nil] at hl
          obtain ⟨x, y, rfl⟩ := two_of hl
          simp only [List.map_cons, List.map_nil, List.cons.injEq, and_true] at hxy
          have h1 := hargs x (by simp)
          have h2 := hargs y (by simp)
          rw [hxy.1] at h1; rw [hxy.2] at h2
          simp only [Rep] at h1 h2
          split at he
          · rename_i hk
            subst hk
            cases he
            refine Done.val g (V := plainV (.int _ _)) ?_ (plain_int _ _)
            first
              | (simp [execOp, resolve, invoke, builtin, Builtin.max_, Builtin.max2, h1, h2, plainV]; simp only [Int.max_def]; split <;> split <;> omega)
              | (simp [execOp, resolve, invoke, builtin, Builtin.min_, Builtin.min2, h1, h2, plainV]; simp only [Int.min_def]; split <;> split <;> omega)
          · cases he
        · cases he
end
end Go.Vs

set_option linter.unusedSimpArgs false
set_option linter.unusedVariables false
namespace Go.Vs

variable {P : Program} {Z Z' Zf : Nat → Prop} {ψ ψ' : Nat → Value} {h h' : Hp} {w w' : World} {B0 : Nat} {O : Nat → Prop} {N : Nat → Prop}

/-- A new name, the old one (none: the row that is nil), what it is. -/
abbrev Ent := Nat × Option Nat × Ob
def entH (L : List Ent) : Heap := L.map fun e => (e.1, e.2.2)
def srcVal (ψ : Nat → Value) : Option Nat → Value
  | some s => ψ s
  | none => .slice none 0 0
def entψ (ψ : Nat → Value) : List Ent → Nat → Value
  | [], _ => undef
  | (i, s, _) :: r, n => if i = n then srcVal ψ s else entψ ψ r n

theorem entH_mem {L : List Ent} {i : Nat} {o : Ob} (hg : (entH L).get i = some o) : ∃ s, (i, s, o) ∈ L := by
  induction L with
  | nil => simp [entH, Heap.get] at hg
  | cons e r ih =>
    obtain ⟨j, s, o'⟩ := e
    simp only [entH, List.map_cons, Heap.get] at hg
    split at hg
    · rename_i e; subst e; cases hg; exact ⟨s, List.mem_cons_self⟩
    · obtain ⟨s', hs⟩ := ih hg; exact ⟨s', List.mem_cons_of_mem _ hs⟩
theorem nodupB_cons {i : Nat} {r : List Nat} (h : nodupB (i :: r) = true) : i ∉ r ∧ nodupB r = true := by
  simp only [nodupB, Bool.and_eq_true, Bool.not_eq_true'] at h
  exact ⟨fun hm => by rw [List.contains_iff_mem.2 hm] at h; simp at h, h.2⟩
theorem entψ_mem {L : List Ent} (hn : nodupB (L.map (·.1)) = true) {i : Nat} {s : Option Nat} {o : Ob} (hm : (i, s, o) ∈ L) : entψ ψ L i = srcVal ψ s := by
  induction L with
  | nil => cases hm
  | cons e r ih =>
    obtain ⟨j, s', o'⟩ := e
    obtain ⟨h1, h2⟩ := nodupB_cons hn
    simp only [entψ]
    rcases List.mem_cons.1 hm with he | hm
    · cases he; simp
    · rw [if_neg, ih h2 hm]
      rintro rfl
      exact h1 (List.mem_map.2 ⟨_, hm, rfl⟩)
theorem ent_src {L : List Ent} (hs : nodupB (L.filterMap (·.2.1)) = true) {i j s : Nat} {o o' : Ob} (h1 : (i, some s, o) ∈ L) (h2 : (j, some s, o') ∈ L) : i = j ∧ o = o' := by
  induction L with
  | nil => cases h1
  | cons e r ih =>
    obtain ⟨k, s', o''⟩ := e
    have mem : ∀ {k : Nat} {o : Ob}, (k, some s, o) ∈ r → s ∈ r.filterMap (·.2.1) := fun h => List.mem_filterMap.2 ⟨_, h, rfl⟩
    rw [List.filterMap_cons] at hs
    cases s' with
    | none =>
      simp only [] at hs
      exact ih hs ((List.mem_cons.1 h1).resolve_left (by simp)) ((List.mem_cons.1 h2).resolve_left (by simp))
    | some s' =>
      simp only [] at hs
      obtain ⟨h3, h4⟩ := nodupB_cons hs
      rcases List.mem_cons.1 h1 with e1 | m1 <;> rcases List.mem_cons.1 h2 with e2 | m2
      · cases e1; cases e2; exact ⟨rfl, rfl⟩
      · cases e1; exact absurd (mem m2) h3
      · cases e2; exact absurd (mem m1) h3
      · exact ih h4 m1 m2

/-- What has no block. -/
def IsNil : (ok : OK) → ok.T → Prop
  | .row _ _, xs => xs = []
  | _, _ => False
theorem IsNil.owns : ∀ {ok : OK} {xs : ok.T}, IsNil ok xs → OwnOb Z w ok (.slice none 0 0) xs
  | .row ty k, xs, h => by
    have h : xs = [] := h
    subst h
    exact ⟨[], ⟨by simp, .inl ⟨rfl, none, rfl⟩⟩, fun i x hx => by simp at hx⟩
  | .map _ _, _, h => h.elim
  | .iter _ _, _, h => h.elim
  | .siter, _, h => h.elim
def EntOk (Z : Nat → Prop) (ψ : Nat → Value) (h : Hp) (w : World) (h' : Hp) (ψ' : Nat → Value) : Ent → Prop
  | (_, some s, .own ok xs) => h s = some (.own ok xs)
  | (_, none, .own ok xs) => IsNil ok xs
  | (_, some s, .box ty cs') => (∃ cs, h s = some (.box ty cs)) ∧ ∀ gg vs, ψ s = .pointer (some ⟨gg, 0, none⟩) → w.heap[gg]? = some (.cells vs ty (0, 0)) → RepL Z ψ' h' w cs' vs.toList
  | (_, none, .box _ _) => False

/-- What is one's own goes by other names; what has none goes. -/
theorem Good.rename (g : Good Z ψ h w B0 O) {L : List Ent} (hn : nodupB (L.map (·.1)) = true) (hs : nodupB (L.filterMap (·.2.1)) = true) (hok : ∀ e ∈ L, EntOk Z ψ h w (entH L).get (entψ ψ L) e) :
    Good Z (entψ ψ L) (entH L).get w B0 O := by
  have src : ∀ id b, (entH L).get id ≠ none → ob (entψ ψ L id) = some b → ∃ s o, (id, some s, o) ∈ L ∧ h s ≠ none ∧ ob (ψ s) = some b := fun id b h1 h2 => by
    obtain ⟨o, ho⟩ := Option.ne_none_iff_exists'.1 h1
    obtain ⟨s, hm⟩ := entH_mem ho
    rw [entψ_mem hn hm] at h2
    cases s with
    | none => simp [srcVal, ob] at h2
    | some s =>
      have h3 := hok _ hm
      refine ⟨s, o, hm, ?_, h2⟩
      cases o with
      | box ty cs => obtain ⟨⟨cs0, h4⟩, _⟩ := h3; rw [h4]; simp
      | own ok xs => rw [show h s = some (.own ok xs) from h3]; simp
  refine ⟨fun id ty cs hb => ?_, fun id ok xs hb => ?_, fun id b h1 h2 => ?_, fun id id' b h1 h2 h3 h4 => ?_, g.zlt⟩
  · obtain ⟨s, hm⟩ := entH_mem hb
    have h3 := hok _ hm
    rw [entψ_mem hn hm]
    cases s with
    | none => exact h3.elim
    | some s =>
      obtain ⟨⟨cs0, h4⟩, h5⟩ := h3
      obtain ⟨gg, vs, h6, h7, h8, h9⟩ := g.box s ty cs0 h4
      exact ⟨gg, vs, h6, h7, h5 gg vs h6 h7, h9⟩
  · obtain ⟨s, hm⟩ := entH_mem hb
    have h3 := hok _ hm
    rw [entψ_mem hn hm]
    cases s with
    | none => exact IsNil.owns h3
    | some s => exact g.row s ok xs h3
  · obtain ⟨s, o, hm, h3, h4⟩ := src id b h1 h2
    exact g.live s b h3 h4
  · obtain ⟨s, o, hm, h5, h6⟩ := src id b h1 h3
    obtain ⟨s', o', hm', h5', h6'⟩ := src id' b h2 h4
    have := g.apart s s' b h5 h5' h6 h6'
    subst this
    exact (ent_src hs hm hm').1

/-! ### Boxes -/
def cellsAt (hh : Heap) (i : Nat) : List AV := match hh.get i with
  | some (.box _ cs) => cs
  | _ => []
def ckEnts : (cks : List CK) → Nat → List AV → CTs cks → List Ent
  | [], _, _, _ => []
  | .val k :: r, n, cs, x => ckEnts r (n + 1) (cs.drop k.sz) x.2
  | .own ok :: r, n, cs, x => (n, (srcs (cs.headD .no)).head?, .own ok x.1) :: ckEnts r (n + 1) cs.tail x.2
def objEnts : (b : BK) → Heap → Nat → Nat → Nat → b.T → List Ent
  | .box ty c, hh, i, i', n, x => (i', some i, .box ty (encCells c n x)) :: ckEnts c n (cellsAt hh i) x
  | .own ok, _, i, i', _, x => [(i', some i, .own ok x)]
def boxEnts : (bs : List BK) → Heap → List Nat → List Nat → Nat → BTs bs → List Ent
  | b :: r, hh, i :: is, i' :: is', n, x => objEnts b hh i i' n x.1 ++ boxEnts r hh is is' (n + 16) x.2
  | _, _, _, _, _, _ => []

theorem ckEnts_heap : ∀ (cks : List CK) (n : Nat) (cs : List AV) (x : CTs cks), entH (ckEnts cks n cs x) = encRows cks n x
  | [], _, _, _ => rfl
  | .val k :: r, n, cs, x => ckEnts_heap r (n + 1) _ x.2
  | .own ok :: r, n, cs, x => by simp only [ckEnts, encRows, entH, List.map_cons]; rw [← ckEnts_heap r (n + 1) cs.tail x.2]; rfl
theorem ckEnts_names : ∀ (cks : List CK) (n : Nat) (cs : List AV) (x : CTs cks), (ckEnts cks n cs x).map (·.1) = ckNames cks n
  | [], _, _, _ => rfl
  | .val k :: r, n, cs, x => ckEnts_names r (n + 1) _ x.2
  | .own ok :: r, n, cs, x => by simp only [ckEnts, ckNames, List.map_cons]; rw [ckEnts_names r (n + 1) cs.tail x.2]
theorem srcs_head (c : AV) : (srcs c).head?.toList = srcs c := by cases c <;> rfl
theorem filterMap_cons_toList {α β : Type} (f : α → Option β) (a : α) (l : List α) : (a :: l).filterMap f = (f a).toList ++ l.filterMap f := by
  rw [List.filterMap_cons]; cases f a <;> rfl

theorem decCKs_val {k : K} {r : List CK} {hh : Heap} {cs : List AV} {x : CTs (.val k :: r)} (hd : decCKs (.val k :: r) hh cs = some x) : decOne k ((cs.take k.sz).map (view1 hh)) = some x.1 ∧ decCKs r hh (cs.drop k.sz) = some x.2 := by
  have e : decCKs (.val k :: r) hh cs = (match decOne k ((cs.take k.sz).map (view1 hh)), decCKs r hh (cs.drop k.sz) with
    | some x, some y => some ((x, y) : k.T × CTs r)
    | _, _ => none) := by cases cs <;> rfl
  rw [e] at hd
  clear e
  generalize decOne k ((cs.take k.sz).map (view1 hh)) = o1 at hd ⊢
  generalize decCKs r hh (cs.drop k.sz) = o2 at hd ⊢
  cases o1 with
  | none => cases hd
  | some x1 =>
    cases o2 with
    | none => cases hd
    | some y1 => have := Option.some.inj hd; subst this; exact ⟨rfl, rfl⟩
theorem decCKs_own {ok : OK} {r : List CK} {hh : Heap} {cs : List AV} {x : CTs (.own ok :: r)} (hd : decCKs (.own ok :: r) hh cs = some x) : ∃ c cs', cs = c :: cs' ∧ ownAt hh ok c = some x.1 ∧ decCKs r hh cs' = some x.2 := by
  cases cs with
  | nil => cases hd
  | cons c cs =>
    refine ⟨c, cs, rfl, ?_⟩
    have e : decCKs (.own ok :: r) hh (c :: cs) = (match ownAt hh ok c, decCKs r hh cs with
      | some x, some y => some ((x, y) : ok.T × CTs r)
      | _, _ => none) := rfl
    rw [e] at hd
    clear e
    generalize ownAt hh ok c = o1 at hd ⊢
    generalize decCKs r hh cs = o2 at hd ⊢
    cases o1 with
    | none => cases hd
    | some x1 =>
      cases o2 with
      | none => cases hd
      | some y1 => have := Option.some.inj hd; subst this; exact ⟨rfl, rfl⟩

theorem ckEnts_src : ∀ (cks : List CK) (n : Nat) (hh : Heap) (cs : List AV) (x : CTs cks), decCKs cks hh cs = some x → (ckEnts cks n cs x).filterMap (·.2.1) = ckKept cks cs
  | [], _, _, cs, _, _ => by cases cs <;> rfl
  | .val k :: r, n, hh, cs, x, hd => by
    obtain ⟨_, h2⟩ := decCKs_val hd
    have e : ckKept (.val k :: r) cs = ckKept r (cs.drop k.sz) := by cases cs <;> rfl
    rw [e]
    exact ckEnts_src r (n + 1) hh _ x.2 h2
  | .own ok :: r, n, hh, cs, x, hd => by
    obtain ⟨c, cs', rfl, _, h2⟩ := decCKs_own hd
    simp only [ckEnts, ckKept]
    rw [filterMap_cons_toList]
    simp only [List.headD_cons, List.tail_cons]
    rw [srcs_head, ckEnts_src r (n + 1) hh cs' x.2 h2]

theorem ownAt_spec {hh : Heap} {ok : OK} {c : AV} {xs : ok.T} (ho : ownAt hh ok c = some xs) : (c = .nils ∧ IsNil ok xs) ∨ ∃ id, c = .osl id ∧ hh.get id = some (.own ok xs) := by
  unfold ownAt at ho
  split at ho
  · cases ok with
    | row _ _ => cases ho; exact .inl ⟨rfl, rfl⟩
    | _ => cases ho
  · rename_i id
    split at ho
    · rename_i ty' k' xs' hg
      split at ho
      · rename_i e
        subst e
        cases ho
        exact .inr ⟨id, rfl, hg⟩
      · cases ho
    · cases ho
  · cases ho

/-- A row in a cell, under its new name. -/
theorem own_rep {hh : Heap} {ok : OK} {c : AV} {xs : ok.T} {v : Value} (ho : ownAt hh ok c = some xs) (hr : Rep Z ψ hh.get w c v) {n : Nat} (hψ : h' n ≠ none → ψ' n = srcVal ψ (srcs c).head?) : Rep Z' ψ' h' w' (.osl n) v := by
  rcases ownAt_spec ho with ⟨rfl, _⟩ | ⟨id, rfl, hg⟩
  · simp only [Rep] at hr ⊢
    subst hr
    exact ⟨⟨rfl, rfl⟩, fun hn => (hψ hn).symm⟩
  · simp only [Rep] at hr ⊢
    refine ⟨hr.1, fun hn => ?_⟩
    rw [hψ hn]
    exact hr.2 (by rw [hg]; simp)

/-- A box's cells, under the new names. -/
theorem cells_rep {hh : Heap} (g : Good Z ψ hh.get w B0 O) (hz : ∀ b, Z b → Z' b) : ∀ (cks : List CK) (n : Nat) (cs : List AV) (x : CTs cks) (vs : List Value), decCKs cks hh cs = some x →
    (∀ id b, AV.osl id ∈ ckFrz cks cs → hh.get id ≠ none → ob (ψ id) = some b → Z' b) → (∀ e ∈ ckEnts cks n cs x, h' e.1 ≠ none → ψ' e.1 = srcVal ψ e.2.1) →
    RepL Z ψ hh.get w cs vs → RepL Z' ψ' h' w (encCells cks n x) vs
  | [], n, cs, x, vs, hd, _, _, hr => by
    cases cs with
    | nil => simpa only [encCells, RepL] using hr
    | cons c cs => cases hd
  | .val k :: r, n, cs, x, vs, hd, hf, hψ, hr => by
    obtain ⟨h1, h2⟩ := decCKs_val hd
    have e : ckFrz (.val k :: r) cs = cs.take k.sz ++ ckFrz r (cs.drop k.sz) := by cases cs <;> rfl
    rw [e] at hf
    have hr' : RepL Z ψ hh.get w (cs.take k.sz ++ cs.drop k.sz) vs := by rw [List.take_append_drop]; exact hr
    obtain ⟨us, ws, rfl, h3, h4⟩ := RepL.split hr'
    simp only [encCells]
    have h5 := views_rep (Z' := Z') g hz (fun id b hid => hf id b (List.mem_append_left _ hid)) h3
    exact RepL.append (enc_rep (decOne_rep h1 h5)) (cells_rep g hz r (n + 1) (cs.drop k.sz) x.2 ws h2 (fun id b hid => hf id b (List.mem_append_right _ hid)) hψ h4)
  | .own ok :: r, n, cs, x, vs, hd, hf, hψ, hr => by
    obtain ⟨c, cs', rfl, h1, h2⟩ := decCKs_own hd
    simp only [RepL] at hr
    obtain ⟨v, us, rfl, h3, h4⟩ := hr
    simp only [encCells, RepL]
    refine ⟨v, us, rfl, own_rep h1 h3 (fun hn => hψ (n, _, _) (by simp only [ckEnts]; exact List.mem_cons_self) hn), ?_⟩
    exact cells_rep g hz r (n + 1) cs' x.2 us h2 hf (fun e he => hψ e (by simp only [ckEnts]; exact List.mem_cons_of_mem _ he)) h4

theorem boxesIn_cons {b : BK} {r : List BK} {hh : Heap} {i : Nat} {is : List Nat} {x : BTs (b :: r)} (hd : boxesIn (b :: r) hh (i :: is) = some x) : objAt b hh i = some x.1 ∧ boxesIn r hh is = some x.2 := by
  have e : boxesIn (b :: r) hh (i :: is) = (match objAt b hh i, boxesIn r hh is with
      | some x, some y => some ((x, y) : b.T × BTs r)
      | _, _ => none) := rfl
  rw [e] at hd
  clear e
  generalize objAt b hh i = o1 at hd ⊢
  generalize boxesIn r hh is = o2 at hd ⊢
  cases o1 with
  | none => cases hd
  | some x1 =>
    cases o2 with
    | none => cases hd
    | some y1 => have := Option.some.inj hd; subst this; exact ⟨rfl, rfl⟩
theorem objAt_box {ty : TypeId} {c : List CK} {hh : Heap} {i : Nat} {x : CTs c} (hd : objAt (.box ty c) hh i = some x) : ∃ cs, hh.get i = some (.box ty cs) ∧ decCKs c hh cs = some x := by
  simp only [objAt] at hd
  cases hb : boxAt hh i ty with
  | none => rw [hb] at hd; cases hd
  | some cs =>
    rw [hb] at hd
    refine ⟨cs, ?_, hd⟩
    unfold boxAt at hb
    split at hb
    · rename_i ty' cs' hg
      split at hb
      · rename_i e; cases hb; rw [hg, e]
      · cases hb
    · cases hb
theorem ownAt_osl {hh : Heap} {ok : OK} {i : Nat} {x : ok.T} (h : ownAt hh ok (.osl i) = some x) : hh.get i = some (.own ok x) := by
  rcases ownAt_spec h with ⟨h, _⟩ | ⟨id, h, hg⟩
  · cases h
  · cases h; exact hg
theorem objAt_own {ok : OK} {hh : Heap} {i : Nat} {x : ok.T} (hd : objAt (.own ok) hh i = some x) : hh.get i = some (.own ok x) := ownAt_osl hd

theorem cellsAt_eq {hh : Heap} {i : Nat} {ty : TypeId} {cs : List AV} (hg : hh.get i = some (.box ty cs)) : cellsAt hh i = cs := by unfold cellsAt; rw [hg]

theorem objEnts_heap (b : BK) {hh : Heap} {i i' n : Nat} (x : b.T) : entH (objEnts b hh i i' n x) = objOut b i' n x := by
  cases b with
  | box ty c => simp only [objEnts, objOut]; rw [← ckEnts_heap c n (cellsAt hh i) x]; simp [entH]
  | own ok => simp [objEnts, objOut, entH]
theorem objEnts_names (b : BK) {hh : Heap} {i i' n : Nat} (x : b.T) : (objEnts b hh i i' n x).map (·.1) = i' :: ckNames b.cks n := by
  cases b with
  | box ty c => simp only [objEnts, List.map_cons, BK.cks]; rw [ckEnts_names]
  | own ok => simp [objEnts, BK.cks, ckNames]
theorem objEnts_src (b : BK) {hh : Heap} {i i' n : Nat} {x : b.T} (hd : objAt b hh i = some x) : (objEnts b hh i i' n x).filterMap (·.2.1) = objKept b hh i := by
  cases b with
  | box ty c =>
    obtain ⟨cs, h1, h2⟩ := objAt_box hd
    simp only [objEnts, objKept]
    rw [filterMap_cons_toList, cellsAt_eq h1, ckEnts_src c n hh cs x h2, h1]
    rfl
  | own ok => simp [objEnts, objKept]
theorem boxEnts_heap : ∀ (bs : List BK) (hh : Heap) (is is' : List Nat) (n : Nat) (x : BTs bs), boxesIn bs hh is = some x → is'.length = bs.length → entH (boxEnts bs hh is is' n x) = boxesOut bs is' n x
  | [], hh, is, is', n, x, _, hl => by cases is' <;> simp [boxEnts, boxesOut, entH]
  | b :: r, hh, [], is', n, x, hd, _ => by cases hd
  | b :: r, hh, i :: is, [], n, x, _, hl => by simp at hl
  | b :: r, hh, i :: is, i' :: is', n, x, hd, hl => by
    obtain ⟨_, h3⟩ := boxesIn_cons hd
    have ih := boxEnts_heap r hh is is' (n + 16) x.2 h3 (by simpa using hl)
    simp only [boxEnts, boxesOut]
    rw [← ih, ← objEnts_heap b (hh := hh) (i := i) x.1]
    simp [entH]
theorem boxEnts_names : ∀ (bs : List BK) (hh : Heap) (is is' : List Nat) (n : Nat) (x : BTs bs), boxesIn bs hh is = some x → is'.length = bs.length → (boxEnts bs hh is is' n x).map (·.1) = boxNames bs is' n
  | [], hh, is, is', n, x, _, hl => by cases is' <;> simp [boxEnts, boxNames]
  | b :: r, hh, [], is', n, x, hd, _ => by cases hd
  | b :: r, hh, i :: is, [], n, x, _, hl => by simp at hl
  | b :: r, hh, i :: is, i' :: is', n, x, hd, hl => by
    obtain ⟨_, h3⟩ := boxesIn_cons hd
    have ih := boxEnts_names r hh is is' (n + 16) x.2 h3 (by simpa using hl)
    simp only [boxEnts, boxNames, List.map_append]
    rw [ih, objEnts_names, List.cons_append]
theorem boxEnts_src : ∀ (bs : List BK) (hh : Heap) (is is' : List Nat) (n : Nat) (x : BTs bs), boxesIn bs hh is = some x → is'.length = bs.length → (boxEnts bs hh is is' n x).filterMap (·.2.1) = boxKept bs hh is
  | [], hh, is, is', n, x, _, hl => by cases is' <;> cases is <;> simp [boxEnts, boxKept]
  | b :: r, hh, [], is', n, x, hd, _ => by cases hd
  | b :: r, hh, i :: is, [], n, x, _, hl => by simp at hl
  | b :: r, hh, i :: is, i' :: is', n, x, hd, hl => by
    obtain ⟨h1, h3⟩ := boxesIn_cons hd
    have ih := boxEnts_src r hh is is' (n + 16) x.2 h3 (by simpa using hl)
    simp only [boxEnts, boxKept]
    rw [List.filterMap_append, ih, objEnts_src b h1]

theorem ckEnts_ok {hd : Hp} {hh : Heap} : ∀ (cks : List CK) (n : Nat) (cs : List AV) (x : CTs cks), decCKs cks hh cs = some x → (∀ s ∈ ckKept cks cs, hd s = hh.get s) → ∀ e ∈ ckEnts cks n cs x, EntOk Z ψ hd w h' ψ' e
  | [], n, cs, x, _, _, e, he => by simp [ckEnts] at he
  | .val k :: r, n, cs, x, hdc, hk, e, he => by
    obtain ⟨_, h2⟩ := decCKs_val hdc
    have e0 : ckKept (.val k :: r) cs = ckKept r (cs.drop k.sz) := by cases cs <;> rfl
    rw [e0] at hk
    exact ckEnts_ok r (n + 1) _ x.2 h2 hk e he
  | .own ok :: r, n, cs, x, hdc, hk, e, he => by
    obtain ⟨c, cs', rfl, h1, h2⟩ := decCKs_own hdc
    simp only [ckEnts, List.headD_cons, List.tail_cons] at he
    simp only [ckKept] at hk
    rcases List.mem_cons.1 he with rfl | he
    · rcases ownAt_spec h1 with ⟨rfl, h3⟩ | ⟨id, rfl, h3⟩
      · exact h3
      · show hd id = some (.own ok x.1)
        rw [hk id (List.mem_append_left _ (by simp [srcs])), h3]
    · exact ckEnts_ok r (n + 1) cs' x.2 h2 (fun s hs => hk s (List.mem_append_right _ hs)) e he

theorem objEnts_ok {hd : Hp} {hh : Heap} (g : Good Z ψ hh.get w B0 O) (hz : ∀ b, Z b → Z' b) (b : BK) {i i' n : Nat} {x : b.T} (hdc : objAt b hh i = some x)
    (hf : ∀ id g, AV.osl id ∈ objFrz b hh i → hh.get id ≠ none → ob (ψ id) = some g → Z' g) (hk : ∀ s ∈ objKept b hh i, hd s = hh.get s) (hψ : ∀ e ∈ objEnts b hh i i' n x, h' e.1 ≠ none → ψ' e.1 = srcVal ψ e.2.1) :
    ∀ e ∈ objEnts b hh i i' n x, EntOk Z' ψ hd w h' ψ' e := by
  intro e he
  cases b with
  | box ty c =>
    obtain ⟨cs, h1, h2⟩ := objAt_box hdc
    simp only [objFrz, objKept, h1] at hf hk
    have hψ1 : ∀ e ∈ ckEnts c n cs x, h' e.1 ≠ none → ψ' e.1 = srcVal ψ e.2.1 := fun e he => hψ e (by simp only [objEnts]; rw [cellsAt_eq h1]; exact List.mem_cons_of_mem _ he)
    simp only [objEnts] at he
    rcases List.mem_cons.1 he with rfl | he
    · refine ⟨⟨cs, by rw [hk i List.mem_cons_self, h1]⟩, fun gg vs h4 h5 => ?_⟩
      obtain ⟨gg', vs', h6, h7, h8, _⟩ := g.box i ty cs h1
      rw [h6] at h4
      cases h4
      rw [h5] at h7
      cases h7
      exact cells_rep g hz c n cs x _ h2 hf hψ1 h8
    · rw [cellsAt_eq h1] at he
      exact ckEnts_ok c n cs x h2 (fun s hs => hk s (List.mem_cons_of_mem _ hs)) e he
  | own ok =>
    have h1 := objAt_own hdc
    simp only [objEnts, List.mem_singleton] at he
    subst he
    show hd i = some (.own ok x)
    rw [hk i (by simp [objKept]), h1]
theorem boxEnts_ok {hd : Hp} {hh : Heap} (g : Good Z ψ hh.get w B0 O) (hz : ∀ b, Z b → Z' b) : ∀ (bs : List BK) (is is' : List Nat) (n : Nat) (x : BTs bs), boxesIn bs hh is = some x →
    (∀ id b, AV.osl id ∈ boxFrz bs hh is → hh.get id ≠ none → ob (ψ id) = some b → Z' b) → (∀ s ∈ boxKept bs hh is, hd s = hh.get s) → (∀ e ∈ boxEnts bs hh is is' n x, h' e.1 ≠ none → ψ' e.1 = srcVal ψ e.2.1) →
    ∀ e ∈ boxEnts bs hh is is' n x, EntOk Z' ψ hd w h' ψ' e
  | [], is, is', n, x, _, _, _, _, e, he => by simp [boxEnts] at he
  | b :: r, [], is', n, x, hdc, _, _, _, e, he => by cases hdc
  | b :: r, i :: is, [], n, x, _, _, _, _, e, he => by simp [boxEnts] at he
  | b :: r, i :: is, i' :: is', n, x, hdc, hf, hk, hψ, e, he => by
    obtain ⟨h1, h3⟩ := boxesIn_cons hdc
    simp only [boxFrz, boxKept] at hf hk
    simp only [boxEnts] at he hψ
    rcases List.mem_append.1 he with he | he
    · exact objEnts_ok g hz b h1 (fun id g hid => hf id g (List.mem_append_left _ hid)) (fun s hs => hk s (List.mem_append_left _ hs)) (fun e he => hψ e (List.mem_append_left _ he)) e he
    · exact boxEnts_ok g hz r is is' (n + 16) x.2 h3 (fun id b hid => hf id b (List.mem_append_right _ hid)) (fun s hs => hk s (List.mem_append_right _ hs)) (fun e he => hψ e (List.mem_append_right _ he)) e he

/-- What is kept is as it was, where some of the rest becomes data. -/
theorem kept_spec {kept : List Nat} {frz : List AV} (hk : keptOk kept frz = true) : nodupB kept = true ∧ ∀ (hh : Heap) s, s ∈ kept → (drops hh frz).get s = hh.get s := by
  unfold keptOk at hk
  rw [Bool.and_eq_true] at hk
  exact ⟨hk.1, fun hh s hs => drops_keep _ _ _ (noId_spec (List.all_eq_true.1 hk.2 s hs))⟩

/-- New names for what is kept; the rest that is told becomes data, or goes. -/
theorem move_good {hh : Heap} {frz : List AV} {kept : List Nat} (g : Good Z ψ hh.get w B0 O) (hk : keptOk kept frz = true) {L : List Ent} (hn : nodupB (L.map (·.1)) = true) (hs : L.filterMap (·.2.1) = kept)
    (hok : ∀ e ∈ L, EntOk (Zof Z ψ hh.get frz) ψ (drops hh frz).get w (entH L).get (entψ ψ L) e) : Good (Zof Z ψ hh.get frz) (entψ ψ L) (entH L).get w B0 O :=
  (drops_good g frz).rename hn (by rw [hs]; exact (kept_spec hk).1) hok
theorem ents_ψ {L : List Ent} (hn : nodupB (L.map (·.1)) = true) : ∀ e ∈ L, (entH L).get e.1 ≠ none → entψ ψ L e.1 = srcVal ψ e.2.1 := fun ⟨i, s, o⟩ he _ => entψ_mem hn he
theorem entH_append (A B : List Ent) : entH (A ++ B) = entH A ++ entH B := by simp [entH]

theorem ref_rep {hh : Heap} {i s i' : Nat} {v : Value} (hr : Rep Z ψ hh.get w (.ref i s 0 0) v) (hi : hh.get i ≠ none) (hψ : h' i' ≠ none → ψ' i' = ψ i) : Rep Z' ψ' h' w' (.ref i' 0 0 0) v := by
  simp only [Rep] at hr ⊢
  obtain ⟨a, rfl, ha⟩ := hr
  refine ⟨a, rfl, fun hn => ?_⟩
  rw [hψ hn, ha hi]
  simp
theorem refId_spec {v : AV} {i : Nat} (h : refId v = some i) : ∃ s, v = .ref i s 0 0 := by
  unfold refId at h
  split at h
  · cases h; exact ⟨_, rfl⟩
  · cases h

theorem boxesIn_some {hh : Heap} : ∀ (bs : List BK) (is : List Nat) (x : BTs bs), boxesIn bs hh is = some x → is.length = bs.length ∧ ∀ i ∈ is, hh.get i ≠ none
  | [], [], _, _ => ⟨rfl, fun i hi => by cases hi⟩
  | [], _ :: _, _, h => by cases h
  | _ :: _, [], _, h => by cases h
  | b :: r, i :: is, x, h => by
    obtain ⟨h1, h3⟩ := boxesIn_cons h
    obtain ⟨h4, h5⟩ := boxesIn_some r is x.2 h3
    refine ⟨by simp [h4], fun j hj => ?_⟩
    rcases List.mem_cons.1 hj with rfl | hj
    · cases b with
      | box ty c => obtain ⟨cs, h1, _⟩ := objAt_box h1; rw [h1]; simp
      | own ok => rw [objAt_own h1]; simp
    · exact h5 j hj

theorem boxEnts_zip {hh : Heap} : ∀ (bs : List BK) (is is' : List Nat) (n : Nat) (x : BTs bs), is.length = bs.length → ∀ p ∈ is.zip is', ∃ o, (p.2, some p.1, o) ∈ boxEnts bs hh is is' n x
  | [], is, is', n, x, hl, p, hp => by
    cases is with
    | nil => simp at hp
    | cons a r => simp at hl
  | b :: r, [], is', n, x, hl, p, hp => by simp at hp
  | b :: r, i :: is, [], n, x, hl, p, hp => by simp at hp
  | b :: r, i :: is, i' :: is', n, x, hl, p, hp => by
    simp only [List.zip_cons_cons] at hp
    simp only [boxEnts]
    rcases List.mem_cons.1 hp with rfl | hp
    · cases b with
      | box ty c => exact ⟨_, List.mem_append_left _ (by simp only [objEnts]; exact List.mem_cons_self)⟩
      | own ok => exact ⟨_, List.mem_append_left _ (by simp only [objEnts]; exact List.mem_cons_self)⟩
    · obtain ⟨o, ho⟩ := boxEnts_zip r is is' (n + 16) x.2 (by simpa using hl) p hp
      exact ⟨o, List.mem_append_right _ ho⟩

theorem own_ent {hd : Hp} {hh : Heap} {ok : OK} {c : AV} {xs : ok.T} (ho : ownAt hh ok c = some xs) (hk : ∀ s ∈ srcs c, hd s = hh.get s) {n : Nat} : EntOk Z ψ hd w h' ψ' (n, (srcs c).head?, .own ok xs) := by
  rcases ownAt_spec ho with ⟨rfl, h3⟩ | ⟨id, rfl, h3⟩
  · exact h3
  · show hd id = some (.own ok xs)
    rw [hk id (by simp [srcs]), h3]
end Go.Vs

set_option linter.unusedSimpArgs false
set_option linter.unusedVariables false
namespace Go.Vs

variable {P : Program} {Z Z' : Nat → Prop} {ψ ψ' : Nat → Value} {h h' : Hp} {w w' : World} {B0 : Nat} {O : Nat → Prop} {N : Nat → Prop}

def NoHeap : Hp := fun _ => none
def NoV : Nat → Value := fun _ => undef
def args0 (g : Sig) (x : VTs (valsOf g.ps)) : List AV := (entryVals g.ps [] 0 x).map (·.2)

/-- The contract of a function that is handed no boxes. -/
def Con0 (P : Program) (f : FuncId) (g : Sig) (x : g.A) (y : g.B) : Prop :=
  ∀ (Z : Nat → Prop) (w : World) (cargs : List Value), (∀ b, Z b → b < w.heap.size) → RepL Z NoV NoHeap w (args0 g x.1) cargs →
    Calls P (f % 1000) cargs.toArray w fun e w' => ∃ v Z' ψ', e = .returned v ∧ (∀ b, Z b → Z' b) ∧ (∀ b, Z' b → Z b ∨ w.heap.size ≤ b) ∧ Keep NoV NoHeap w w' ∧
      Good Z' ψ' (encResRows g.rs 3000 y.1).get w' w.heap.size (fun _ => False) ∧ Rep Z' ψ' (encResRows g.rs 3000 y.1).get w' (tupOf (encRes g.rs [] 2000 3000 y.1)) v

theorem argIds_cons {p : PK} {ps : List PK} {vs : List AV} (hi : argIds (p :: ps) vs = some []) : ∃ a r, vs = a :: r ∧ argIds ps r = some [] ∧ (p ≠ .ref ∧ p ≠ .own) ∧ (∀ f n, p = .clo f n → a = .fn f []) ∧ (∀ n, p = .agg n → a = .agg []) := by
  cases vs with
  | nil => cases p <;> simp [argIds] at hi
  | cons a r =>
    cases p with
    | val k => exact ⟨a, r, rfl, by simpa only [argIds] using hi, by simp, by simp, by simp⟩
    | ref =>
      simp only [argIds] at hi
      split at hi <;> simp at hi
    | own =>
      cases a <;> simp only [argIds] at hi <;> first | (cases hi; done) | skip
      split at hi <;> simp at hi
    | clo f n =>
      cases a <;> simp only [argIds] at hi <;> first | (cases hi; done) | skip
      rename_i f' cap
      split at hi
      · rename_i hc
        obtain ⟨rfl, hcl⟩ := hc
        split at hi
        · rename_i a1 b1 h1 h2
          simp only [Option.some.injEq, List.append_eq_nil_iff] at hi
          obtain ⟨rfl, rfl⟩ := hi
          have hcap : cap = [] := by
            cases cap with
            | nil => rfl
            | cons c cs => simp only [refIds] at h1; split at h1 <;> simp at h1
          subst hcap
          exact ⟨_, r, rfl, h2, by simp, by rintro f n ⟨⟩; rfl, by simp⟩
        · cases hi
      · cases hi
    | agg n =>
      cases a <;> simp only [argIds] at hi <;> first | (cases hi; done) | skip
      rename_i cs
      split at hi
      · split at hi
        · rename_i a1 b1 h1 h2
          simp only [Option.some.injEq, List.append_eq_nil_iff] at hi
          obtain ⟨rfl, rfl⟩ := hi
          have hcs : cs = [] := by
            cases cs with
            | nil => rfl
            | cons c cs => cases c <;> simp only [oslIds] at h1 <;> first | (cases h1; done) | (split at h1 <;> simp at h1)
          subst hcs
          exact ⟨_, r, rfl, h2, by simp, by simp, fun _ _ => rfl⟩
        · cases hi
      · cases hi

theorem argVals_val {k : K} {ps : List PK} {hh : Heap} {a : AV} {r : List AV} {x : k.T × VTs (valsOf ps)} (hv : argVals (.val k :: ps) hh (a :: r) = some x) : ofOne k hh a = some x.1 ∧ argVals ps hh r = some x.2 := by
  have e : argVals (.val k :: ps) hh (a :: r) = (match ofOne k hh a, argVals ps hh r with
    | some x, some y => some ((x, y) : k.T × VTs (valsOf ps))
    | _, _ => none) := rfl
  rw [e] at hv
  clear e
  generalize ofOne k hh a = o1 at hv ⊢
  generalize argVals ps hh r = o2 at hv ⊢
  cases o1 with
  | none => cases hv
  | some x1 =>
    cases o2 with
    | none => cases hv
    | some y1 =>
      have := Option.some.inj hv
      subst this
      exact ⟨rfl, rfl⟩

/-- The arguments of a call, as the callee has them. -/
theorem args_rep {hh : Heap} (g : Good Z ψ hh.get w B0 O) (hz : ∀ b, Z b → Z' b) (ps : List PK) : ∀ (s : Nat) (vs : List AV) (us : List Value) (x : VTs (valsOf ps)), (∀ v ∈ vs, ∀ id b, AV.osl id ∈ v.cells → hh.get id ≠ none → ob (ψ id) = some b → Z' b) →
    argIds ps vs = some [] → argVals ps hh vs = some x → RepL Z ψ hh.get w vs us → RepL Z' NoV NoHeap w ((entryVals ps [] s x).map (·.2)) us := by
  induction ps with
  | nil =>
    intro s vs us x _ hi hv hr
    cases vs with
    | nil => simpa only [entryVals, List.map_nil, RepL] using hr
    | cons a r => simp [argIds] at hi
  | cons p ps ih =>
    intro s vs us x hb hi hv hr
    obtain ⟨a, r, rfl, hi', hnr, hclo, hagg⟩ := argIds_cons hi
    simp only [RepL] at hr
    obtain ⟨u, us', rfl, h3, h4⟩ := hr
    cases p with
    | val k =>
      obtain ⟨h1, h2⟩ := argVals_val hv
      simp only [entryVals, List.map_cons, RepL]
      exact ⟨u, us', rfl, ofOne_rep (Z' := Z') (ψ' := NoV) (h' := NoHeap) g hz (hb a List.mem_cons_self) h1 h3, ih (s + 1) r us' x.2 (fun v hv => hb v (List.mem_cons_of_mem _ hv)) hi' h2 h4⟩
    | ref => exact absurd rfl hnr.1
    | own => exact absurd rfl hnr.2
    | clo f n =>
      have ha := hclo f n rfl
      subst ha
      have h2 : argVals ps hh r = some x := hv
      simp only [entryVals, List.map_cons, RepL, List.take_nil, List.map_nil, List.drop_nil]
      simp only [Rep, RepL] at h3 ⊢
      exact ⟨u, us', rfl, h3, ih (s + 1) r us' x (fun v hv => hb v (List.mem_cons_of_mem _ hv)) hi' h2 h4⟩
    | agg n =>
      have ha := hagg n rfl
      subst ha
      have h2 : argVals ps hh r = some x := hv
      simp only [entryVals, List.map_cons, RepL, List.take_nil, List.map_nil, List.drop_nil]
      simp only [Rep, RepL] at h3 ⊢
      exact ⟨u, us', rfl, h3, ih (s + 1) r us' x (fun v hv => hb v (List.mem_cons_of_mem _ hv)) hi' h2 h4⟩

/-- The heap grows by what a call made; so does what is data. -/
theorem Good.more2 (g : Good Z ψ h w B0 O) (k : Keep NoV NoHeap w w') (hz : ∀ b, Z b → Z' b) (hz' : ∀ b, Z' b → Z b ∨ w.heap.size ≤ b) (hzlt : ∀ b, Z' b → b < w'.heap.size)
    (hold : ∀ id, ¬ N id → h' id = h id ∧ ψ' id = ψ id)
    (hment : ∀ id ty cs, h id = some (.box ty cs) → MentL (fun i => ¬ N i) cs)
    (hbox : ∀ id ty cs, N id → h' id = some (.box ty cs) → False)
    (hrow : ∀ id ok xs, N id → h' id = some (.own ok xs) → OwnOb Z' w' ok (ψ' id) xs)
    (hlive : ∀ id b, N id → h' id ≠ none → ob (ψ' id) = some b → w.heap.size ≤ b ∧ ¬ Z' b)
    (hapart : ∀ id id' b, N id → N id' → h' id ≠ none → h' id' ≠ none → ob (ψ' id) = some b → ob (ψ' id') = some b → id = id') (hB : B0 ≤ w.heap.size) :
    Next Z ψ h w B0 O N Z' ψ' h' w' := by
  have old : ∀ b, b < w.heap.size → w'.heap[b]? = w.heap[b]? := fun b hb => k.block b hb (fun ⟨id, h1, _⟩ => h1 rfl)
  have sm : Same Z w w' := fun b hb => old b (g.zlt b hb)
  have hids : ∀ id, h' id ≠ none → (h id ≠ none ∧ ψ' id = ψ id) ∨ N id := fun id hid => by
    by_cases hn : N id
    · exact .inr hn
    · obtain ⟨e1, e2⟩ := hold id hn
      exact .inl ⟨by rwa [e1] at hid, e2⟩
  have cross : ∀ id b, ¬ N id → h' id ≠ none → ob (ψ' id) = some b → Own ψ h b := fun id b hn h1 h2 => by
    obtain ⟨e1, e2⟩ := hold id hn
    exact ⟨id, by rwa [e1] at h1, by rwa [e2] at h2⟩
  have kk : Keep ψ h w w' := ⟨k.os, k.tape, k.output, k.size, fun b hb _ => old b hb⟩
  refine ⟨hz, fun b hb => (hz' b hb).imp (fun h => h) .inr, kk, hids, ⟨fun id ty cs hb => ?_, fun id ok xs hb => ?_, fun id b h1 h2 => ?_, fun id id' b h1 h2 h3 h4 => ?_, hzlt⟩⟩
  · by_cases hn : N id
    · exact (hbox id ty cs hn hb).elim
    · obtain ⟨e1, e2⟩ := hold id hn
      rw [e1] at hb
      obtain ⟨gg, vs, h1, h2, h3, h4⟩ := g.box id ty cs hb
      exact ⟨gg, vs, by rw [e2, h1], (old gg (Array.getElem?_eq_some_iff.1 h2).1).trans h2, h3.move hz sm (fun i hp hid => (hids i hid).resolve_right hp) (hment id ty cs hb), h4⟩
  · by_cases hn : N id
    · exact hrow id ok xs hn hb
    · obtain ⟨e1, e2⟩ := hold id hn
      rw [e1] at hb
      rw [e2]
      exact (g.row id ok xs hb).kept hz sm (fun gg hgg => old gg (g.own_lt ⟨id, by rw [hb]; simp, hgg⟩))
  · by_cases hn : N id
    · obtain ⟨h3, h4⟩ := hlive id b hn h1 h2
      exact ⟨h4, .inl (by omega)⟩
    · obtain ⟨e1, e2⟩ := hold id hn
      rw [e1] at h1; rw [e2] at h2
      have h3 := g.live id b h1 h2
      refine ⟨fun hzb => ?_, h3.2⟩
      rcases hz' b hzb with h4 | h4
      · exact h3.1 h4
      · have := g.own_lt ⟨id, h1, h2⟩; omega
  · by_cases hn : N id <;> by_cases hn' : N id'
    · exact hapart id id' b hn hn' h1 h2 h3 h4
    · have := (hlive id b hn h1 h3).1
      have := g.own_lt (cross id' b hn' h2 h4); omega
    · have := (hlive id' b hn' h2 h4).1
      have := g.own_lt (cross id b hn h1 h3); omega
    · obtain ⟨e1, e2⟩ := hold id hn
      obtain ⟨e3, e4⟩ := hold id' hn'
      rw [e1] at h1; rw [e2] at h3; rw [e3] at h2; rw [e4] at h4
      exact g.apart id id' b h1 h2 h3 h4

/-! ### The names of a call's new rows -/
theorem plain_tail {r : RK} {rs : List RK} (h : (r :: rs).all RK.plain = true) : rs.all RK.plain = true := by simp only [List.all_cons, Bool.and_eq_true] at h; exact h.2
theorem plain_agg {c : List CK} {rs : List RK} (h : (RK.agg c :: rs).all RK.plain = true) : c.length ≤ 16 := by
  simp only [List.all_cons, Bool.and_eq_true, RK.plain, decide_eq_true_eq] at h; exact h.1
theorem encRows_lt : ∀ (c : List CK) (a : Nat) (x : CTs c) (i : Nat), i < a → (encRows c a x).get i = none
  | [], _, _, _, _ => rfl
  | .val _ :: r, a, x, i, h => by simp only [encRows]; exact encRows_lt r (a + 1) x.2 i (by omega)
  | .own ok :: r, a, x, i, h => by simp only [encRows, Heap.get]; rw [if_neg (by omega)]; exact encRows_lt r (a + 1) x.2 i (by omega)
theorem encRows_ge : ∀ (c : List CK) (a : Nat) (x : CTs c) (i : Nat), a + c.length ≤ i → (encRows c a x).get i = none
  | [], _, _, _, _ => rfl
  | .val _ :: r, a, x, i, h => by simp only [List.length_cons] at h; simp only [encRows]; exact encRows_ge r (a + 1) x.2 i (by omega)
  | .own ok :: r, a, x, i, h => by simp only [List.length_cons] at h; simp only [encRows, Heap.get]; rw [if_neg (by omega)]; exact encRows_ge r (a + 1) x.2 i (by omega)
theorem encRows_at : ∀ (c : List CK) (a b : Nat) (x : CTs c) (j : Nat), (encRows c a x).get (a + j) = (encRows c b x).get (b + j)
  | [], _, _, _, _ => rfl
  | .val _ :: r, a, b, x, 0 => by simp only [encRows]; rw [encRows_lt _ _ _ _ (by omega), encRows_lt _ _ _ _ (by omega)]
  | .own ok :: r, a, b, x, 0 => by simp [encRows, Heap.get]
  | .val _ :: r, a, b, x, j + 1 => by
    simp only [encRows]
    rw [show a + (j + 1) = a + 1 + j by omega, show b + (j + 1) = b + 1 + j by omega]
    exact encRows_at r (a + 1) (b + 1) x.2 j
  | .own ok :: r, a, b, x, j + 1 => by
    simp only [encRows, Heap.get]
    rw [if_neg (by omega), if_neg (by omega), show a + (j + 1) = a + 1 + j by omega, show b + (j + 1) = b + 1 + j by omega]
    exact encRows_at r (a + 1) (b + 1) x.2 j
theorem encRows_nobox : ∀ (c : List CK) (a : Nat) (x : CTs c) (i : Nat) (ty : TypeId) (cs : List AV), (encRows c a x).get i ≠ some (.box ty cs)
  | [], _, _, _, _, _ => by simp [encRows, Heap.get]
  | .val _ :: r, a, x, i, ty, cs => by simp only [encRows]; exact encRows_nobox r (a + 1) x.2 i ty cs
  | .own ok :: r, a, x, i, ty, cs => by
    simp only [encRows, Heap.get]
    split
    · simp
    · exact encRows_nobox r (a + 1) x.2 i ty cs
theorem er_lt : ∀ (rs : List RK) (a : Nat) (y : RTs rs) (i : Nat), rs.all RK.plain = true → i < a → (encResRows rs a y).get i = none
  | [], a, y, i, _, h => rfl
  | .val k :: r, a, y, i, hp, h => by simp only [encResRows]; exact er_lt r (a + 1) y.2 i (plain_tail hp) (by omega)
  | .own ok :: r, a, y, i, hp, h => by simp only [encResRows, Heap.get]; rw [if_neg (by omega)]; exact er_lt r (a + 1) y.2 i (plain_tail hp) (by omega)
  | .eptr _ _ :: r, a, y, i, hp, h => by simp only [encResRows]; exact er_lt r (a + 1) y.2 i (plain_tail hp) (by omega)
  | .agg c :: r, a, y, i, hp, h => by
    have h1 : (encRows c a y.1).get i = none := encRows_lt c a y.1 i h
    have h2 := er_lt r (a + 1) y.2 i (plain_tail hp) (by omega)
    show Heap.get (encRows c a y.1 ++ encResRows r (a + 1) y.2) i = none
    rw [Heap.get_append, h1, h2]
theorem er_ge : ∀ (rs : List RK) (a : Nat) (y : RTs rs) (i : Nat), rs.all RK.plain = true → a + rs.length + 16 ≤ i → (encResRows rs a y).get i = none
  | [], a, y, i, _, h => rfl
  | .val k :: r, a, y, i, hp, h => by simp only [List.length_cons] at h; simp only [encResRows]; exact er_ge r (a + 1) y.2 i (plain_tail hp) (by omega)
  | .own ok :: r, a, y, i, hp, h => by simp only [List.length_cons] at h; simp only [encResRows, Heap.get]; rw [if_neg (by omega)]; exact er_ge r (a + 1) y.2 i (plain_tail hp) (by omega)
  | .eptr _ _ :: r, a, y, i, hp, h => by simp only [List.length_cons] at h; simp only [encResRows]; exact er_ge r (a + 1) y.2 i (plain_tail hp) (by omega)
  | .agg c :: r, a, y, i, hp, h => by
    simp only [List.length_cons] at h
    have hc := plain_agg hp
    have h1 : (encRows c a y.1).get i = none := encRows_ge c a y.1 i (by omega)
    have h2 := er_ge r (a + 1) y.2 i (plain_tail hp) (by omega)
    show Heap.get (encRows c a y.1 ++ encResRows r (a + 1) y.2) i = none
    rw [Heap.get_append, h1, h2]
theorem er_at : ∀ (rs : List RK) (a b : Nat) (y : RTs rs) (j : Nat), rs.all RK.plain = true → (encResRows rs a y).get (a + j) = (encResRows rs b y).get (b + j)
  | [], _, _, _, _, _ => rfl
  | .val k :: r, a, b, y, 0, hp => by simp only [encResRows]; rw [er_lt _ _ _ _ (plain_tail hp) (by omega), er_lt _ _ _ _ (plain_tail hp) (by omega)]
  | .eptr _ _ :: r, a, b, y, 0, hp => by simp only [encResRows]; rw [er_lt _ _ _ _ (plain_tail hp) (by omega), er_lt _ _ _ _ (plain_tail hp) (by omega)]
  | .own ok :: r, a, b, y, 0, hp => by simp [encResRows, Heap.get]
  | .val k :: r, a, b, y, j + 1, hp => by
    simp only [encResRows]
    rw [show a + (j + 1) = a + 1 + j by omega, show b + (j + 1) = b + 1 + j by omega]
    exact er_at r (a + 1) (b + 1) y.2 j (plain_tail hp)
  | .eptr _ _ :: r, a, b, y, j + 1, hp => by
    simp only [encResRows]
    rw [show a + (j + 1) = a + 1 + j by omega, show b + (j + 1) = b + 1 + j by omega]
    exact er_at r (a + 1) (b + 1) y.2 j (plain_tail hp)
  | .own ok :: r, a, b, y, j + 1, hp => by
    simp only [encResRows, Heap.get]
    rw [if_neg (by omega), if_neg (by omega), show a + (j + 1) = a + 1 + j by omega, show b + (j + 1) = b + 1 + j by omega]
    exact er_at r (a + 1) (b + 1) y.2 j (plain_tail hp)
  | .agg c :: r, a, b, y, j, hp => by
    have h1 : (encRows c a y.1).get (a + j) = (encRows c b y.1).get (b + j) := encRows_at c a b y.1 j
    have h2 : (encResRows r (a + 1) y.2).get (a + j) = (encResRows r (b + 1) y.2).get (b + j) := by
      cases j with
      | zero => rw [er_lt _ _ _ _ (plain_tail hp) (by omega), er_lt _ _ _ _ (plain_tail hp) (by omega)]
      | succ j =>
        rw [show a + (j + 1) = a + 1 + j by omega, show b + (j + 1) = b + 1 + j by omega]
        exact er_at r (a + 1) (b + 1) y.2 j (plain_tail hp)
    show Heap.get (encRows c a y.1 ++ encResRows r (a + 1) y.2) (a + j) = Heap.get (encRows c b y.1 ++ encResRows r (b + 1) y.2) (b + j)
    rw [Heap.get_append, Heap.get_append, h1, h2]
theorem er_rows : ∀ (rs : List RK) (a : Nat) (y : RTs rs) (i : Nat) (ty : TypeId) (cs : List AV), rs.all RK.plain = true → (encResRows rs a y).get i ≠ some (.box ty cs)
  | [], _, _, _, _, _, _ => by simp [encResRows, Heap.get]
  | .val k :: r, a, y, i, ty, cs, hp => by simp only [encResRows]; exact er_rows r (a + 1) y.2 i ty cs (plain_tail hp)
  | .eptr _ _ :: r, a, y, i, ty, cs, hp => by simp only [encResRows]; exact er_rows r (a + 1) y.2 i ty cs (plain_tail hp)
  | .own ok :: r, a, y, i, ty, cs, hp => by
    simp only [encResRows, Heap.get]
    split
    · simp
    · exact er_rows r (a + 1) y.2 i ty cs (plain_tail hp)
  | .agg c :: r, a, y, i, ty, cs, hp => by
    have h1 : (encRows c a y.1).get i ≠ some (.box ty cs) := encRows_nobox c a y.1 i ty cs
    show Heap.get (encRows c a y.1 ++ encResRows r (a + 1) y.2) i ≠ some (.box ty cs)
    rw [Heap.get_append]
    split
    · rename_i o ho; rw [ho] at h1; exact h1
    · exact er_rows r (a + 1) y.2 i ty cs (plain_tail hp)

theorem enc_ment (p : Nat → Prop) : ∀ (k : K) (x : k.T), MentL p (enc k x)
  | .int _, _ => by simp only [enc, MentL, Ment]; exact ⟨trivial, trivial⟩
  | .bool, _ => by simp only [enc, MentL, Ment]; exact ⟨trivial, trivial⟩
  | .str, _ => by simp only [enc, MentL, Ment]; exact ⟨trivial, trivial⟩
  | .sl _, _ => by simp only [enc, MentL, Ment]; exact ⟨trivial, trivial⟩
  | .mp _ _, _ => by simp only [enc, MentL, Ment]; exact ⟨trivial, trivial⟩
  | .pair a b, x => by
    simp only [enc]
    have h1 := enc_ment p a x.1
    have h2 := enc_ment p b x.2
    revert h1
    generalize enc a x.1 = l
    induction l with
    | nil => intro _; exact h2
    | cons c r ih => intro h; simp only [List.cons_append, MentL] at h ⊢; exact ⟨h.1, ih h.2⟩
  | .one k, x => by simp only [enc]; exact enc_ment p k x
theorem encV_ment (p : Nat → Prop) : ∀ (k : K) (x : k.T), Ment p (encV k x)
  | .int _, _ => by simp only [encV, Ment]
  | .bool, _ => by simp only [encV, Ment]
  | .str, _ => by simp only [encV, Ment]
  | .sl _, _ => by simp only [encV, Ment]
  | .mp _ _, _ => by simp only [encV, Ment]
  | .pair a b, x => by simp only [encV, Ment]; exact enc_ment p (.pair a b) x
  | .one k, x => by simp only [encV, Ment]; exact enc_ment p (.one k) x
theorem encV_any {k : K} {x : k.T} {v : Value} (hr : Rep Z ψ h w (encV k x) v) : Rep Z ψ' h' w (encV k x) v :=
  hr.move (p := fun _ => False) (fun _ h => h) (Same.refl _ _) (fun _ hp _ => hp.elim) (encV_ment _ k x)

theorem er_succ (r : RK) (rs : List RK) (b : Nat) (y : RTs (r :: rs)) (i : Nat) (hi : (encResRows rs (b + 1) y.2).get i ≠ none) : (encResRows (r :: rs) b y).get i ≠ none := by
  cases r with
  | val k => exact hi
  | eptr _ _ => exact hi
  | own ok => simp only [encResRows, Heap.get]; split <;> simp_all
  | agg c =>
    show Heap.get (encRows c b y.1 ++ encResRows rs (b + 1) y.2) i ≠ none
    rw [Heap.get_append]
    split
    · simp
    · exact hi
theorem cells_move (c : List CK) : ∀ {H : Hp} {a b : Nat} {x : CTs c} {vs : List Value}, (∀ j, (encRows c b x).get (b + j) ≠ none → h' (b + j) ≠ none → H (a + j) ≠ none ∧ ψ' (b + j) = ψ (a + j)) →
    RepL Z ψ H w (encCells c a x) vs → RepL Z ψ' h' w (encCells c b x) vs := by
  induction c with
  | nil => intro H a b x vs _ hr; simpa only [encCells, RepL] using hr
  | cons k c ih =>
    intro H a b x vs hH hr
    cases k with
    | val k =>
      have hr' : RepL Z ψ H w (enc k x.1 ++ encCells c (a + 1) x.2) vs := hr
      obtain ⟨us, ws, rfl, h1, h2⟩ := hr'.split
      show RepL Z ψ' h' w (enc k x.1 ++ encCells c (b + 1) x.2) (us ++ ws)
      refine (h1.move (p := fun _ => False) (fun _ h => h) (Same.refl _ _) (fun _ hp _ => hp.elim) (enc_ment _ k x.1)).append (ih (fun j hj hne => ?_) h2)
      have := hH (j + 1)
      rw [show b + (j + 1) = b + 1 + j by omega, show a + (j + 1) = a + 1 + j by omega] at this
      exact this hj hne
    | own ok =>
      have hr' : RepL Z ψ H w (.osl a :: encCells c (a + 1) x.2) vs := hr
      simp only [RepL] at hr'
      obtain ⟨v, us, rfl, h1, h2⟩ := hr'
      show RepL Z ψ' h' w (.osl b :: encCells c (b + 1) x.2) (v :: us)
      simp only [RepL]
      refine ⟨v, us, rfl, ?_, ih (fun j hj hne => ?_) h2⟩
      · simp only [Rep] at h1 ⊢
        refine ⟨h1.1, fun hne => ?_⟩
        obtain ⟨h3, h4⟩ := hH 0 (by simp [encRows, Heap.get]) hne
        rw [Nat.add_zero, Nat.add_zero] at h4
        rw [h4]; exact h1.2 h3
      · have := hH (j + 1)
        rw [show b + (j + 1) = b + 1 + j by omega, show a + (j + 1) = a + 1 + j by omega] at this
        refine this ?_ hne
        have e : (encRows (.own ok :: c) b x).get (b + 1 + j) = (encRows c (b + 1) x.2).get (b + 1 + j) := by simp only [encRows, Heap.get]; rw [if_neg (by omega)]
        rw [e]; exact hj
theorem res_move (rs : List RK) : ∀ {H : Hp} {n m a b : Nat} {y : RTs rs} {vs : List Value}, rs.all RK.plain = true → (∀ j, (encResRows rs b y).get (b + j) ≠ none → h' (b + j) ≠ none → H (a + j) ≠ none ∧ ψ' (b + j) = ψ (a + j)) →
    RepL Z ψ H w (encRes rs [] n a y) vs → RepL Z ψ' h' w (encRes rs [] m b y) vs := by
  induction rs with
  | nil => intro H n m a b y vs _ _ hr; simpa only [encRes, RepL] using hr
  | cons r rs ih =>
    intro H n m a b y vs hp hH hr
    have hpa := hp
    simp only [List.all_cons, Bool.and_eq_true] at hp
    have hH' : ∀ j, (encResRows rs (b + 1) y.2).get (b + 1 + j) ≠ none → h' (b + 1 + j) ≠ none → H (a + 1 + j) ≠ none ∧ ψ' (b + 1 + j) = ψ (a + 1 + j) := fun j hj hne => by
      have := hH (j + 1)
      rw [show b + (j + 1) = b + 1 + j by omega, show a + (j + 1) = a + 1 + j by omega] at this
      exact this (er_succ _ _ _ _ _ hj) hne
    cases r with
    | val k =>
      simp only [encRes, RepL] at hr ⊢
      obtain ⟨v, us, rfl, h1, h2⟩ := hr
      exact ⟨v, us, rfl, encV_any h1, ih hp.2 hH' h2⟩
    | own ok =>
      simp only [encRes, RepL] at hr ⊢
      obtain ⟨v, us, rfl, h1, h2⟩ := hr
      refine ⟨v, us, rfl, ?_, ih hp.2 hH' h2⟩
      simp only [Rep] at h1 ⊢
      refine ⟨h1.1, fun hne => ?_⟩
      obtain ⟨h3, h4⟩ := hH 0 (by simp [encResRows, Heap.get]) hne
      rw [Nat.add_zero, Nat.add_zero] at h4
      rw [h4]; exact h1.2 h3
    | eptr b c => simp [RK.plain] at hp
    | agg c =>
      simp only [encRes, RepL] at hr ⊢
      obtain ⟨v, us, rfl, h1, h2⟩ := hr
      refine ⟨v, us, rfl, ?_, ih hp.2 hH' h2⟩
      simp only [Rep] at h1 ⊢
      obtain ⟨ws, rfl, h3⟩ := h1
      refine ⟨ws, rfl, cells_move c (fun j hj hne => hH j ?_ hne) h3⟩
      show Heap.get (encRows c b y.1 ++ encResRows rs (b + 1) y.2) (b + j) ≠ none
      rw [Heap.get_append]
      split
      · simp
      · rename_i hnone; exact absurd hnone hj
theorem tupOf_move {ψ₁ ψ₂ : Nat → Value} {h₁ h₂ : Hp} {Z₁ Z₂ : Nat → Prop} {l l' : List AV} {V : Value} (hl : l.length = l'.length) (hm : ∀ vs, RepL Z₁ ψ₁ h₁ w l vs → RepL Z₂ ψ₂ h₂ w l' vs) (hr : Rep Z₁ ψ₁ h₁ w (tupOf l) V) : Rep Z₂ ψ₂ h₂ w (tupOf l') V := by
  match l, l', hl with
  | [a], [a'], _ =>
    simp only [tupOf] at hr ⊢
    have := hm [V] (by simp only [RepL]; exact ⟨V, [], rfl, hr, rfl⟩)
    simp only [RepL] at this
    obtain ⟨v, us, e, h1, _⟩ := this
    cases e; exact h1
  | [], [], _ =>
    simp only [tupOf, Rep] at hr ⊢
    obtain ⟨us, rfl, h1⟩ := hr
    exact ⟨us, rfl, hm _ h1⟩
  | a :: b :: r, a' :: b' :: r', _ =>
    simp only [tupOf, Rep] at hr ⊢
    obtain ⟨us, rfl, h1⟩ := hr
    exact ⟨us, rfl, hm _ h1⟩
theorem encRes_length (rs : List RK) : ∀ (ids : List Nat) (n m : Nat) (y : RTs rs), (encRes rs ids n m y).length = rs.length := by
  induction rs with
  | nil => intros; rfl
  | cons r rs ih => intro ids n m y; cases r <;> simp [encRes, ih]

theorem dec_enc : ∀ (k : K) (x : k.T) (r : List AV), dec k (enc k x ++ r) = some (x, r)
  | .int _, x, r => by simp only [enc, List.cons_append, List.nil_append, dec, decInt, if_true]; rfl
  | .bool, x, r => by simp only [enc, List.cons_append, List.nil_append, dec, decBool]; rfl
  | .str, x, r => by simp only [enc, List.cons_append, List.nil_append, dec, decStr]; rfl
  | .sl k, x, r => by simp only [enc, List.cons_append, List.nil_append, dec, decSl]; rfl
  | .mp kk vk, x, r => by simp only [enc, List.cons_append, List.nil_append, dec, decMp]; rfl
  | .pair a b, x, r => by
    simp only [enc, dec, List.append_assoc]
    rw [dec_enc a x.1 (enc b x.2 ++ r)]
    simp only []
    rw [dec_enc b x.2 r]
    rfl
  | .one k, x, r => by simp only [enc, dec]; exact dec_enc k x r
theorem decOne_enc (k : K) (x : k.T) : decOne k (enc k x) = some x := by
  unfold decOne
  have := dec_enc k x []
  rw [List.append_nil] at this
  rw [this]
theorem encV_cells : ∀ (k : K) (x : k.T), (encV k x).cells = enc k x
  | .int _, _ => rfl
  | .bool, _ => rfl
  | .str, _ => rfl
  | .sl _, _ => rfl
  | .mp _ _, _ => rfl
  | .pair a b, x => rfl
  | .one k, x => rfl
theorem encV_no : ∀ (k : K) (x : k.T), encV k x ≠ .no
  | .int _, _ => by simp [encV]
  | .bool, _ => by simp [encV]
  | .str, _ => by simp [encV]
  | .sl _, _ => by simp [encV]
  | .mp _ _, _ => by simp [encV]
  | .pair a b, x => by simp [encV]
  | .one k, x => by simp [encV]
theorem encV_agg : ∀ (k : K) (x : k.T), (encV k x).isAgg = k.isAgg
  | .int _, _ => rfl
  | .bool, _ => rfl
  | .str, _ => rfl
  | .sl _, _ => rfl
  | .mp _ _, _ => rfl
  | .pair a b, x => rfl
  | .one k, x => rfl
/-- One value of a kind: its cells. -/
theorem encV_repK {k : K} {x : k.T} {v : Value} (hr : Rep Z ψ h w (encV k x) v) : RepK Z w k x v.cells.toList := by
  have h1 := hr.cells (encV_no k x)
  rw [encV_cells] at h1
  exact decOne_rep (decOne_enc k x) h1
theorem encV_shape {k : K} {x : k.T} {v : Value} (hr : Rep Z ψ h w (encV k x) v) : (k.isAgg = true → ∃ vs, v = .agg vs) ∧ (k.isAgg = false → v.cells = #[v]) :=
  ⟨fun h => agg_of (by rw [encV_agg]; exact h) hr, fun h => nonagg_of (by rw [encV_agg]; exact h) (encV_no k x) hr⟩
theorem res_flat (rs : List RK) : ∀ {H : Hp} {n m a b : Nat} {y : RTs rs} {vs : List Value}, rs.all RK.flat = true → rs.all RK.plain = true → RepL Z ψ H w (encRes rs [] n a y) vs → RepL Z' ψ' h' w' (encRes rs [] m b y) vs := by
  induction rs with
  | nil => intro H n m a b y vs _ _ hr; simpa only [encRes, RepL] using hr
  | cons r rs ih =>
    intro H n m a b y vs hf hp hr
    simp only [List.all_cons, Bool.and_eq_true] at hp hf
    cases r with
    | val k =>
      simp only [encRes, RepL] at hr ⊢
      obtain ⟨v, us, rfl, h1, h2⟩ := hr
      have hk : k.flat = true := hf.1
      obtain ⟨h3, h4⟩ := encV_shape h1
      exact ⟨v, us, rfl, encV_rep ((encV_repK h1).flat hk) h3 h4, ih hf.2 hp.2 h2⟩
    | own ok => simp [RK.flat] at hf
    | eptr b c => simp [RK.plain] at hp
    | agg c => simp [RK.flat] at hf
theorem rows_flat (rs : List RK) : ∀ (a : Nat) (y : RTs rs), rs.all RK.flat = true → rs.all RK.plain = true → encResRows rs a y = [] := by
  induction rs with
  | nil => intros; rfl
  | cons r rs ih =>
    intro a y hf hp
    simp only [List.all_cons, Bool.and_eq_true] at hp hf
    cases r with
    | val k => simp only [encResRows]; exact ih _ _ hf.2 hp.2
    | own ok => simp [RK.flat] at hf
    | eptr b c => simp [RK.plain] at hp
    | agg c => simp [RK.flat] at hf

/-! ### A call -/
theorem argCells_mem : ∀ (ps : List PK) (vs : List AV), argIds ps vs = some [] → ∀ v ∈ vs, ∀ id, AV.osl id ∈ v.cells → AV.osl id ∈ argCells ps vs
  | [], vs, hi, v, hv, id, hid => by
    cases vs with
    | nil => cases hv
    | cons a r => simp [argIds] at hi
  | p :: ps, vs, hi, v, hv, id, hid => by
    obtain ⟨a, r, rfl, hi', hnr, hclo, hagg⟩ := argIds_cons hi
    rcases List.mem_cons.1 hv with rfl | hv
    · cases p with
      | val k => simp only [argCells]; exact List.mem_append_left _ hid
      | ref => exact absurd rfl hnr.1
      | own => exact absurd rfl hnr.2
      | clo f n => rw [hclo f n rfl] at hid; simp [AV.cells] at hid
      | agg n => rw [hagg n rfl] at hid; simp [AV.cells] at hid
    · have := argCells_mem ps r hi' v hv id hid
      cases p with
      | val k => simp only [argCells]; exact List.mem_append_right _ this
      | ref => exact absurd rfl hnr.1
      | own => exact absurd rfl hnr.2
      | clo f n => simpa only [argCells] using this
      | agg n => simpa only [argCells] using this

theorem keyOf'_mod (f : FuncId) (vs : List AV) : keyOf' f vs % 1000 = f % 1000 := by
  induction vs with
  | nil => rfl
  | cons v r ih =>
    cases v with
    | fn g cap => exact Nat.add_mul_mod_self_left f 1000 _
    | _ => simp only [keyOf']; exact ih

theorem keyOf_mod {Sg : FuncId → Option Sig} (f : FuncId) (vs : List AV) : keyOf Sg f vs % 1000 = f % 1000 := by
  unfold keyOf
  split
  · exact (Nat.add_mul_mod_self_right (keyOf' f vs) 500 1000).trans (keyOf'_mod f vs)
  · exact keyOf'_mod f vs
theorem Next.imp {N' : Nat → Prop} (n : Next Z ψ h w B0 O N Z' ψ' h' w') (hi : ∀ i, N i → N' i) : Next Z ψ h w B0 O N' Z' ψ' h' w' :=
  ⟨n.zsub, n.zfrom, n.keep, fun id hid => (n.ids id hid).imp (fun h => h) (hi id), n.good⟩

/-- The rows that a call made, under the caller's names. -/
theorem call_next {rs : List RK} {y : RTs rs} (hp : rs.all RK.plain = true) {id nb : Nat} (g : Good Z ψ h w B0 O) (hB : B0 ≤ w.heap.size)
    (hment : ∀ i ty cs, h i = some (.box ty cs) → MentL (fun i => ¬ N i) cs) (hN : ∀ j, j < rs.length + 16 → N (id + j))
    (k : Keep NoV NoHeap w w') (hz : ∀ b, Z b → Z' b) (hz' : ∀ b, Z' b → Z b ∨ w.heap.size ≤ b) (gc : Good Z' ψ' (encResRows rs 3000 y).get w' w.heap.size (fun _ => False))
    {v : Value} (hr : Rep Z' ψ' (encResRows rs 3000 y).get w' (tupOf (encRes rs [] 2000 3000 y)) v) :
    ∃ ψ'', Next Z ψ h w B0 O N Z' ψ'' (fun i => match (encResRows rs id y).get i with | some o => some o | none => h i) w' ∧
      Rep Z' ψ'' (fun i => match (encResRows rs id y).get i with | some o => some o | none => h i) w' (tupOf (encRes rs [] nb id y)) v := by
  classical
  let H : Hp := fun i => match (encResRows rs id y).get i with | some o => some o | none => h i
  let NN : Nat → Prop := fun i => (encResRows rs id y).get i ≠ none
  let ψ'' : Nat → Value := fun i => if NN i then ψ' (3000 + (i - id)) else ψ i
  have hNN : ∀ i, NN i → ∃ j, j < rs.length + 16 ∧ i = id + j := fun i hi => by
    have h1 : ¬ i < id := fun hlt => hi (er_lt rs id y i hp hlt)
    have h2 : ¬ id + rs.length + 16 ≤ i := fun hge => hi (er_ge rs id y i hp hge)
    exact ⟨i - id, by omega, by omega⟩
  have hat : ∀ i, NN i → (encResRows rs 3000 y).get (3000 + (i - id)) = (encResRows rs id y).get i := fun i hi => by
    obtain ⟨j, _, rfl⟩ := hNN i hi
    rw [show id + j - id = j by omega]
    exact er_at rs 3000 id y j hp
  have hH : ∀ i, NN i → H i = (encResRows rs 3000 y).get (3000 + (i - id)) := fun i hi => by
    rw [hat i hi]
    show (match (encResRows rs id y).get i with | some o => some o | none => h i) = _
    cases e : (encResRows rs id y).get i with
    | none => exact absurd e hi
    | some o => rfl
  have hψ : ∀ i, NN i → ψ'' i = ψ' (3000 + (i - id)) := fun i hi => if_pos hi
  have hNNN : ∀ i, NN i → N i := fun i hi => by obtain ⟨j, hj, rfl⟩ := hNN i hi; exact hN j hj
  have n := Good.more2 (N := NN) (ψ' := ψ'') (h' := H) g k hz hz' gc.zlt
    (fun i hi => by
      have e : (encResRows rs id y).get i = none := Classical.not_not.1 hi
      refine ⟨?_, if_neg hi⟩
      show (match (encResRows rs id y).get i with | some o => some o | none => h i) = h i
      rw [e])
    (fun i ty cs hb => (hment i ty cs hb).imp (fun i hi hni => hi (hNNN i hni)))
    (fun i ty cs hi hb => by rw [hH i hi] at hb; exact er_rows _ _ _ _ _ _ hp hb)
    (fun i ok xs hi hb => by rw [hH i hi] at hb; rw [hψ i hi]; exact gc.row _ _ _ hb)
    (fun i b hi h1 h2 => by
      rw [hH i hi] at h1; rw [hψ i hi] at h2
      obtain ⟨h3, h4⟩ := gc.live _ b h1 h2
      exact ⟨h4.resolve_right (fun h => h), h3⟩)
    (fun i i' b hi hi' h1 h2 h3 h4 => by
      rw [hH i hi] at h1; rw [hH i' hi'] at h2; rw [hψ i hi] at h3; rw [hψ i' hi'] at h4
      have := gc.apart _ _ b h1 h2 h3 h4
      obtain ⟨j, _, rfl⟩ := hNN i hi
      obtain ⟨j', _, rfl⟩ := hNN i' hi'
      omega) hB
  refine ⟨ψ'', n.imp hNNN, ?_⟩
  refine tupOf_move (by rw [encRes_length, encRes_length]) (fun vs hvs => ?_) hr
  refine res_move (h' := H) (ψ' := ψ'') rs (n := 2000) (a := 3000) hp (fun j hn hne => ?_) hvs
  replace hn : NN (id + j) := hn
  have e1 := hH _ hn
  have e2 := hψ _ hn
  rw [show id + j - id = j by omega] at e1 e2
  exact ⟨by rw [← e1]; exact hne, e2⟩

/-- A function that may be entered. -/
def Callable (P : Program) (f : FuncId) : Prop := ∃ fn, P.funcs[f]? = some fn ∧ (fn.name == "runtime.NumGoroutine") = false ∧ fn.body.isSome = true
theorem run_callFunc {f : FuncId} (hc : Callable P f) (args : Array Value) : (callFunc f args).run P w = .ok (.enter f args) w := by
  obtain ⟨fn, h1, h2, h3⟩ := hc
  obtain ⟨c, hc⟩ := Option.isSome_iff_exists.1 h3
  simp [callFunc, h1, hc, show ¬ fn.name = "runtime.NumGoroutine" by simpa using h2]

/-- What a call comes to. -/
def DoneC (P : Program) (ρC : Operand → Value) (o : Oper) (Z : Nat → Prop) (ψ : Nat → Value) (h : Hp) (w : World) (B0 : Nat) (O N : Nat → Prop) (e : Eff) : Prop :=
  ∃ f args, (execOp ρC o).run P w = .ok (.enter f args) w ∧ Calls P f args w fun en w' => ∃ V Z' ψ', en = .returned V ∧ Next Z ψ h w B0 O N Z' ψ' (e.hp h) w' ∧ Rep Z' ψ' (e.hp h) w' e.v V
end Go.Vs

set_option linter.unusedSimpArgs false
set_option linter.unusedVariables false
namespace Go.Vs
variable {P : Program} {Z Z' : Nat → Prop} {ψ ψ' : Nat → Value} {h h' : Hp} {w w' : World} {B0 : Nat} {O : Nat → Prop} {N : Nat → Prop}

def resEnts : (rs : List RK) → List AV → Nat → RTs rs → List Ent
  | [], _, _, _ => []
  | .own ok :: r, vs, m, x => (m, (srcs (vs.headD .no)).head?, .own ok x.1) :: resEnts r vs.tail (m + 1) x.2
  | .val _ :: r, vs, m, x => resEnts r vs.tail (m + 1) x.2
  | .eptr _ _ :: r, vs, m, x => resEnts r vs.tail (m + 1) x.2
  | .agg c :: r, vs, m, x => ckEnts c m (vs.headD .no).cells x.1 ++ resEnts r vs.tail (m + 1) x.2

theorem resEnts_heap : ∀ (rs : List RK) (vs : List AV) (m : Nat) (x : RTs rs), entH (resEnts rs vs m x) = encResRows rs m x
  | [], _, _, _ => rfl
  | .own ok :: r, vs, m, x => by simp only [resEnts, encResRows]; rw [← resEnts_heap r vs.tail (m + 1) x.2]; rfl
  | .val _ :: r, vs, m, x => resEnts_heap r vs.tail (m + 1) x.2
  | .eptr _ _ :: r, vs, m, x => resEnts_heap r vs.tail (m + 1) x.2
  | .agg c :: r, vs, m, x => by
    have e1 : entH (ckEnts c m (vs.headD .no).cells x.1) = encRows c m x.1 := ckEnts_heap c m _ x.1
    have e2 := resEnts_heap r vs.tail (m + 1) x.2
    simp only [resEnts, encResRows]
    rw [entH_append, e2]
    exact congrArg (· ++ _) e1
theorem resEnts_names : ∀ (rs : List RK) (vs : List AV) (m : Nat) (x : RTs rs), (resEnts rs vs m x).map (·.1) = resNames rs m
  | [], _, _, _ => rfl
  | .own ok :: r, vs, m, x => by simp only [resEnts, resNames, List.map_cons]; rw [resEnts_names r vs.tail (m + 1) x.2]
  | .val _ :: r, vs, m, x => resEnts_names r vs.tail (m + 1) x.2
  | .eptr _ _ :: r, vs, m, x => resEnts_names r vs.tail (m + 1) x.2
  | .agg c :: r, vs, m, x => by
    have e1 : (ckEnts c m (vs.headD .no).cells x.1).map (·.1) = ckNames c m := ckEnts_names c m _ x.1
    have e2 := resEnts_names r vs.tail (m + 1) x.2
    simp only [resEnts, resNames, List.map_append]
    rw [e2]
    exact congrArg (· ++ _) e1

theorem decRes_val {bs : List BK} {k : K} {r : List RK} {hh : Heap} {ids : List Nat} {vs : List AV} {x : RTs (.val k :: r)} (hd : decRes bs (.val k :: r) hh ids vs = some x) : ∃ v vs', vs = v :: vs' ∧ ofOne k hh v = some x.1 ∧ decRes bs r hh ids vs' = some x.2 := by
  cases vs with
  | nil => cases hd
  | cons v vs =>
    have e : decRes bs (.val k :: r) hh ids (v :: vs) = (match ofOne k hh v, decRes bs r hh ids vs with
      | some x, some y => some ((x, y) : k.T × RTs r)
      | _, _ => none) := rfl
    rw [e] at hd
    clear e
    refine ⟨v, vs, rfl, ?_⟩
    generalize ofOne k hh v = o1 at hd ⊢
    generalize decRes bs r hh ids vs = o2 at hd ⊢
    cases o1 with
    | none => cases hd
    | some x1 =>
      cases o2 with
      | none => cases hd
      | some y1 => have := Option.some.inj hd; subst this; exact ⟨rfl, rfl⟩
theorem decRes_own {bs : List BK} {ok : OK} {r : List RK} {hh : Heap} {ids : List Nat} {vs : List AV} {x : RTs (.own ok :: r)} (hd : decRes bs (.own ok :: r) hh ids vs = some x) : ∃ v vs', vs = v :: vs' ∧ ownAt hh ok v = some x.1 ∧ decRes bs r hh ids vs' = some x.2 := by
  cases vs with
  | nil => cases hd
  | cons v vs =>
    have e : decRes bs (.own ok :: r) hh ids (v :: vs) = (match ownAt hh ok v, decRes bs r hh ids vs with
      | some x, some y => some ((x, y) : ok.T × RTs r)
      | _, _ => none) := rfl
    rw [e] at hd
    clear e
    refine ⟨v, vs, rfl, ?_⟩
    generalize ownAt hh ok v = o1 at hd ⊢
    generalize decRes bs r hh ids vs = o2 at hd ⊢
    cases o1 with
    | none => cases hd
    | some x1 =>
      cases o2 with
      | none => cases hd
      | some y1 => have := Option.some.inj hd; subst this; exact ⟨rfl, rfl⟩
theorem decRes_eptr {bs : List BK} {b : Nat} {alts : List (Nat × Nat × Nat)} {r : List RK} {hh : Heap} {ids : List Nat} {vs : List AV} {x : RTs (.eptr b alts :: r)} (hd : decRes bs (.eptr b alts :: r) hh ids vs = some x) : ∃ v vs', vs = v :: vs' ∧ eptrAt bs hh ids b alts v = some x.1 ∧ decRes bs r hh ids vs' = some x.2 := by
  cases vs with
  | nil => cases hd
  | cons v vs =>
    have e : decRes bs (.eptr b alts :: r) hh ids (v :: vs) = (match eptrAt bs hh ids b alts v, decRes bs r hh ids vs with
      | some x, some y => some ((x, y) : Option (Fin alts.length × Nat) × RTs r)
      | _, _ => none) := rfl
    rw [e] at hd
    clear e
    refine ⟨v, vs, rfl, ?_⟩
    generalize eptrAt bs hh ids b alts v = o1 at hd ⊢
    generalize decRes bs r hh ids vs = o2 at hd ⊢
    cases o1 with
    | none => cases hd
    | some x1 =>
      cases o2 with
      | none => cases hd
      | some y1 => have := Option.some.inj hd; subst this; exact ⟨rfl, rfl⟩

theorem decRes_agg {bs : List BK} {c : List CK} {r : List RK} {hh : Heap} {ids : List Nat} {vs : List AV} {x : RTs (.agg c :: r)} (hd : decRes bs (.agg c :: r) hh ids vs = some x) : ∃ cs vs', vs = .agg cs :: vs' ∧ decCKs c hh cs = some x.1 ∧ decRes bs r hh ids vs' = some x.2 := by
  cases vs with
  | nil => cases hd
  | cons v vs =>
    have e : decRes bs (.agg c :: r) hh ids (v :: vs) = (match decAgg c hh v, decRes bs r hh ids vs with
      | some x, some y => some ((x, y) : CTs c × RTs r)
      | _, _ => none) := rfl
    rw [e] at hd
    clear e
    have key : decAgg c hh v = some x.1 ∧ decRes bs r hh ids vs = some x.2 := by
      generalize decAgg c hh v = o1 at hd ⊢
      generalize decRes bs r hh ids vs = o2 at hd ⊢
      cases o1 with
      | none => cases hd
      | some x1 =>
        cases o2 with
        | none => cases hd
        | some y1 => have := Option.some.inj hd; subst this; exact ⟨rfl, rfl⟩
    obtain ⟨h1, h2⟩ := key
    unfold decAgg at h1
    split at h1
    · exact ⟨_, vs, rfl, h1, h2⟩
    · cases h1

theorem decRes_length {bs : List BK} {hh : Heap} {ids : List Nat} : ∀ (rs : List RK) (vs : List AV) (x : RTs rs), decRes bs rs hh ids vs = some x → vs.length = rs.length
  | [], [], _, _ => rfl
  | [], _ :: _, _, h => by cases h
  | .val k :: r, vs, x, h => by obtain ⟨v, vs', rfl, _, h2⟩ := decRes_val h; simp [decRes_length r vs' x.2 h2]
  | .own ok :: r, vs, x, h => by obtain ⟨v, vs', rfl, _, h2⟩ := decRes_own h; simp [decRes_length r vs' x.2 h2]
  | .eptr _ _ :: r, vs, x, h => by obtain ⟨v, vs', rfl, _, h2⟩ := decRes_eptr h; simp [decRes_length r vs' x.2 h2]
  | .agg _ :: r, vs, x, h => by obtain ⟨v, vs', rfl, _, h2⟩ := decRes_agg h; simp [decRes_length r vs' x.2 h2]

theorem resEnts_src {bs : List BK} {hh : Heap} {ids : List Nat} : ∀ (rs : List RK) (vs : List AV) (m : Nat) (x : RTs rs), decRes bs rs hh ids vs = some x → (resEnts rs vs m x).filterMap (·.2.1) = resKept rs vs
  | [], vs, _, _, _ => by cases vs <;> rfl
  | .own ok :: r, vs, m, x, h => by
    obtain ⟨v, vs', rfl, _, h2⟩ := decRes_own h
    simp only [resEnts, resKept, List.headD_cons, List.tail_cons]
    rw [filterMap_cons_toList, resEnts_src r vs' (m + 1) x.2 h2]
    simp only []
    rw [srcs_head]
  | .val k :: r, vs, m, x, h => by
    obtain ⟨v, vs', rfl, _, h2⟩ := decRes_val h
    simp only [resEnts, resKept, List.tail_cons]
    exact resEnts_src r vs' (m + 1) x.2 h2
  | .eptr _ _ :: r, vs, m, x, h => by
    obtain ⟨v, vs', rfl, _, h2⟩ := decRes_eptr h
    simp only [resEnts, resKept, List.tail_cons]
    exact resEnts_src r vs' (m + 1) x.2 h2
  | .agg c :: r, vs, m, x, h => by
    obtain ⟨cs, vs', rfl, h1, h2⟩ := decRes_agg h
    simp only [resEnts, resKept, List.headD_cons, List.tail_cons, AV.cells]
    have e1 : (ckEnts c m cs x.1).filterMap (·.2.1) = ckKept c cs := ckEnts_src c m hh cs x.1 h1
    rw [List.filterMap_append, resEnts_src r vs' (m + 1) x.2 h2]
    exact congrArg (· ++ _) e1

theorem resEnts_ok {hd : Hp} {bs : List BK} {hh : Heap} {ids : List Nat} : ∀ (rs : List RK) (vs : List AV) (m : Nat) (x : RTs rs), decRes bs rs hh ids vs = some x → (∀ s ∈ resKept rs vs, hd s = hh.get s) → ∀ e ∈ resEnts rs vs m x, EntOk Z ψ hd w h' ψ' e
  | [], _, _, _, _, _, e, he => by simp [resEnts] at he
  | .own ok :: r, vs, m, x, h, hk, e, he => by
    obtain ⟨v, vs', rfl, h1, h2⟩ := decRes_own h
    simp only [resEnts, resKept, List.headD_cons, List.tail_cons] at he hk
    rcases List.mem_cons.1 he with rfl | he
    · exact own_ent h1 fun s hs => hk s (List.mem_append_left _ hs)
    · exact resEnts_ok r vs' (m + 1) x.2 h2 (fun s hs => hk s (List.mem_append_right _ hs)) e he
  | .val k :: r, vs, m, x, h, hk, e, he => by
    obtain ⟨v, vs', rfl, h1, h2⟩ := decRes_val h
    exact resEnts_ok r vs' (m + 1) x.2 h2 hk e he
  | .eptr _ _ :: r, vs, m, x, h, hk, e, he => by
    obtain ⟨v, vs', rfl, h1, h2⟩ := decRes_eptr h
    exact resEnts_ok r vs' (m + 1) x.2 h2 hk e he
  | .agg c :: r, vs, m, x, h, hk, e, he => by
    obtain ⟨cs, vs', rfl, h1, h2⟩ := decRes_agg h
    simp only [resEnts, resKept, List.headD_cons, List.tail_cons, AV.cells] at he hk
    rcases List.mem_append.1 he with he | he
    · exact ckEnts_ok c m cs x.1 h1 (fun s hs => hk s (List.mem_append_left _ hs)) e he
    · exact resEnts_ok r vs' (m + 1) x.2 h2 (fun s hs => hk s (List.mem_append_right _ hs)) e he

/-! ### Pointers to elements -/
theorem ckEnts_at {hh : Heap} {id : Nat} : ∀ (cks : List CK) (c n : Nat) (cs : List AV) (x : CTs cks), decCKs cks hh cs = some x → ckOwn cks c = true → cs[ckOff cks c]? = some (.osl id) → hh.get id ≠ none ∧ ∃ o, (n + c, some id, o) ∈ ckEnts cks n cs x
  | [], c, n, cs, x, _, h, _ => by simp [ckOwn] at h
  | .val k :: r, 0, n, cs, x, _, h, _ => by simp [ckOwn] at h
  | .val k :: r, c + 1, n, cs, x, hd, h, hc => by
    obtain ⟨_, h2⟩ := decCKs_val hd
    obtain ⟨h3, o, h4⟩ := ckEnts_at r c (n + 1) (cs.drop k.sz) x.2 h2 (by simpa [ckOwn] using h) (by rw [List.getElem?_drop]; simpa [ckOff] using hc)
    exact ⟨h3, o, by rw [show n + (c + 1) = n + 1 + c by omega]; exact h4⟩
  | .own ok :: r, 0, n, cs, x, hd, h, hc => by
    obtain ⟨c0, cs', rfl, h1, h2⟩ := decCKs_own hd
    simp only [ckOff, List.getElem?_cons_zero, Option.some.injEq] at hc
    subst hc
    rcases ownAt_spec h1 with ⟨h3, _⟩ | ⟨id', h3, h4⟩
    · cases h3
    · cases h3
      exact ⟨by rw [h4]; simp, _, by simp only [ckEnts, List.headD_cons, srcs, List.head?_cons]; exact List.mem_cons_self⟩
  | .own ok :: r, c + 1, n, cs, x, hd, h, hc => by
    obtain ⟨c0, cs', rfl, h1, h2⟩ := decCKs_own hd
    obtain ⟨h3, o, h4⟩ := ckEnts_at r c (n + 1) cs' x.2 h2 (by simpa [ckOwn] using h) (by simp only [ckOff] at hc; rw [Nat.add_comm] at hc; simpa using hc)
    exact ⟨h3, o, by rw [show n + (c + 1) = n + 1 + c by omega]; simp only [ckEnts, List.tail_cons]; exact List.mem_cons_of_mem _ h4⟩
theorem boxEnts_at {hh : Heap} {id c : Nat} : ∀ (bs : List BK) (b n : Nat) (is is' : List Nat) (x : BTs bs) (bk : BK) (bi : Nat) (ty : TypeId) (cs : List AV), boxesIn bs hh is = some x → is'.length = bs.length → bs[b]? = some bk → is[b]? = some bi → hh.get bi = some (.box ty cs) →
    ckOwn bk.cks c = true → cs[ckOff bk.cks c]? = some (.osl id) → hh.get id ≠ none ∧ ∃ o, (n + 16 * b + c, some id, o) ∈ boxEnts bs hh is is' n x
  | [], b, n, is, is', x, bk, bi, ty, cs, _, _, h, _, _, _, _ => by simp at h
  | b0 :: r, b, n, [], is', x, bk, bi, ty, cs, hd, _, _, _, _, _, _ => by cases hd
  | b0 :: r, b, n, i :: is, [], x, bk, bi, ty, cs, _, hl, _, _, _, _, _ => by simp at hl
  | b0 :: r, 0, n, i :: is, i' :: is', x, bk, bi, ty, cs, hd, hl, h1, h2, h3, h4, h5 => by
    obtain ⟨g0, g3⟩ := boxesIn_cons hd
    simp only [List.getElem?_cons_zero, Option.some.injEq] at h1 h2
    subst h1; subst h2
    cases b0 with
    | own ok => simp [BK.cks, ckOwn] at h4
    | box ty0 c0 =>
      obtain ⟨cs', g1, g2⟩ := objAt_box g0
      rw [g1] at h3
      cases h3
      obtain ⟨h6, o, h7⟩ := ckEnts_at c0 c n cs x.1 g2 h4 h5
      refine ⟨h6, o, ?_⟩
      simp only [boxEnts, objEnts]
      rw [cellsAt_eq g1]
      exact List.mem_append_left _ (List.mem_cons_of_mem _ (by simpa using h7))
  | b0 :: r, b + 1, n, i :: is, i' :: is', x, bk, bi, ty, cs, hd, hl, h1, h2, h3, h4, h5 => by
    obtain ⟨_, g3⟩ := boxesIn_cons hd
    obtain ⟨h6, o, h7⟩ := boxEnts_at r b (n + 16) is is' x.2 bk bi ty cs g3 (by simpa using hl) (by simpa using h1) (by simpa using h2) h3 h4 h5
    refine ⟨h6, o, ?_⟩
    rw [show n + 16 * (b + 1) + c = n + 16 + 16 * b + c by omega]
    simp only [boxEnts]
    exact List.mem_append_right _ h7
theorem altIs_spec {c : List CK} {cs : List AV} {id s off : Nat} {a : Nat × Nat × Nat} (h : altIs c cs id s off a = true) : cs[ckOff c a.1]? = some (.osl id) ∧ s = a.2.1 ∧ off = a.2.2 ∧ ckOwn c a.1 = true := by
  simp only [altIs, Bool.and_eq_true, decide_eq_true_eq] at h
  obtain ⟨h1, h2, h3, h4⟩ := h
  refine ⟨?_, h2, h3, h4⟩
  unfold isOsl at h1
  split at h1
  · rename_i e; rw [e]; simp only [beq_iff_eq] at h1; rw [h1]
  · cases h1
theorem eptr_spec {bs : List BK} {hh : Heap} {ids : List Nat} {b : Nat} {alts : List (Nat × Nat × Nat)} {v : AV} {x : Option (Fin alts.length × Nat)} (hd : eptrAt bs hh ids b alts v = some x) : (v = .nilp ∧ x = none) ∨
    ∃ id i a bi bk ty cs, v = .ref id (alts.get a).2.1 i (alts.get a).2.2 ∧ x = some (a, i) ∧ ids[b]? = some bi ∧ bs[b]? = some bk ∧ hh.get bi = some (.box ty cs) ∧ cs[ckOff bk.cks (alts.get a).1]? = some (.osl id) ∧ ckOwn bk.cks (alts.get a).1 = true := by
  unfold eptrAt at hd
  split at hd
  · cases hd; exact .inl ⟨rfl, rfl⟩
  · rename_i id s i off
    split at hd
    · rename_i bi bk h1 h2
      split at hd
      · rename_i ty cs h3
        split at hd
        · rename_i a h4
          cases hd
          have h4' : altIs bk.cks cs id s off (alts.get a) = true := by simpa using List.find?_some (p := fun a => altIs bk.cks cs id s off (alts.get a)) h4
          obtain ⟨h5, rfl, rfl, h6⟩ := altIs_spec h4'
          exact .inr ⟨id, i, a, bi, bk, ty, cs, rfl, rfl, h1, h2, h3, h5, h6⟩
        · cases hd
      · cases hd
    · cases hd
  · cases hd

/-- Results, as the caller has them. -/
theorem res_rep {bs : List BK} {hh : Heap} {ids is' ids2 : List Nat} {nb : Nat} {yb : BTs bs} (g : Good Z ψ hh.get w B0 O) (hz : ∀ b, Z b → Z' b) (hb : boxesIn bs hh ids = some yb) (hl : is'.length = bs.length)
    (hψb : ∀ e ∈ boxEnts bs hh ids is' nb yb, h' e.1 ≠ none → ψ' e.1 = srcVal ψ e.2.1) : ∀ (rs : List RK) (vs : List AV) (m : Nat) (x : RTs rs) (us : List Value), decRes bs rs hh ids vs = some x →
    (∀ id b, AV.osl id ∈ resFrz rs vs → hh.get id ≠ none → ob (ψ id) = some b → Z' b) → (∀ e ∈ resEnts rs vs m x, h' e.1 ≠ none → ψ' e.1 = srcVal ψ e.2.1) → RepL Z ψ hh.get w vs us → RepL Z' ψ' h' w (encRes rs ids2 nb m x) us
  | [], vs, m, x, us, hd, _, _, hr => by
    have := decRes_length [] vs x hd
    have hv : vs = [] := List.eq_nil_of_length_eq_zero this
    subst hv
    simpa only [encRes, RepL] using hr
  | .val k :: r, vs, m, x, us, hd, hf, hψ, hr => by
    obtain ⟨v, vs', rfl, h1, h2⟩ := decRes_val hd
    simp only [RepL] at hr
    obtain ⟨u, us', rfl, h3, h4⟩ := hr
    simp only [encRes, RepL]
    simp only [resFrz] at hf
    exact ⟨u, us', rfl, ofOne_rep g hz (fun id b hid => hf id b (List.mem_append_left _ hid)) h1 h3, res_rep g hz hb hl hψb r vs' (m + 1) x.2 us' h2 (fun id b hid => hf id b (List.mem_append_right _ hid)) hψ h4⟩
  | .own ok :: r, vs, m, x, us, hd, hf, hψ, hr => by
    obtain ⟨v, vs', rfl, h1, h2⟩ := decRes_own hd
    simp only [RepL] at hr
    obtain ⟨u, us', rfl, h3, h4⟩ := hr
    simp only [encRes, RepL]
    simp only [resEnts, List.headD_cons, List.tail_cons] at hψ
    exact ⟨u, us', rfl, own_rep h1 h3 (fun hn => hψ _ List.mem_cons_self hn), res_rep g hz hb hl hψb r vs' (m + 1) x.2 us' h2 hf (fun e he => hψ e (List.mem_cons_of_mem _ he)) h4⟩
  | .eptr b alts :: r, vs, m, x, us, hd, hf, hψ, hr => by
    obtain ⟨v, vs', rfl, h1, h2⟩ := decRes_eptr hd
    simp only [RepL] at hr
    obtain ⟨u, us', rfl, h3, h4⟩ := hr
    simp only [encRes, RepL]
    refine ⟨u, us', rfl, ?_, res_rep g hz hb hl hψb r vs' (m + 1) x.2 us' h2 hf hψ h4⟩
    rcases eptr_spec h1 with ⟨rfl, h5⟩ | ⟨id, i, al, bi, bk, ty, cs, rfl, h5, h6, h7, h8, h9, h10⟩
    · have : x.1 = none := h5
      rw [this]
      simpa only [eptrV, Rep] using h3
    · have : x.1 = some (al, i) := h5
      rw [this]
      obtain ⟨h11, o, h12⟩ := boxEnts_at bs b nb ids is' yb bk bi ty cs hb hl h7 h6 h8 h10 h9
      simp only [eptrV, Rep] at h3 ⊢
      obtain ⟨ad, h13, h14⟩ := h3
      refine ⟨ad, h13, fun hn => ?_⟩
      rw [hψb _ h12 hn, h14 h11]; rfl
  | .agg c :: r, vs, m, x, us, hd, hf, hψ, hr => by
    obtain ⟨cs, vs', rfl, h1, h2⟩ := decRes_agg hd
    simp only [RepL] at hr
    obtain ⟨u, us', rfl, h3, h4⟩ := hr
    simp only [encRes, RepL]
    simp only [resFrz, AV.cells] at hf
    simp only [resEnts, List.headD_cons, List.tail_cons, AV.cells] at hψ
    refine ⟨u, us', rfl, ?_, res_rep g hz hb hl hψb r vs' (m + 1) x.2 us' h2 (fun id b hid => hf id b (List.mem_append_right _ hid)) (fun e he => hψ e (List.mem_append_right _ he)) h4⟩
    simp only [Rep] at h3 ⊢
    obtain ⟨ws, rfl, h5⟩ := h3
    exact ⟨ws, rfl, cells_rep g hz c m cs x.1 _ h1 (fun id b hid => hf id b (List.mem_append_left _ hid)) (fun e he => hψ e (List.mem_append_left _ he)) h5⟩
end Go.Vs
