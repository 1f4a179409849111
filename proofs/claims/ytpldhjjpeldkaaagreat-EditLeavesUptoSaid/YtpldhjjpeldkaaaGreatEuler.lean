/- Faces, parts, and Euler's formula. -/
import Derived.Test.YtpldhjjpeldkaaaGreatSplits

set_option linter.unusedVariables false
namespace Go.Cy
variable {α : Type}

/-- Each goes to the next one, the last to z. -/
def Path (f : α → α) : List α → α → Prop
  | [], _ => True
  | x :: r, z => f x = r.head?.getD z ∧ Path f r z
theorem Path.app {f : α → α} : ∀ {a b : List α} {z : α}, Path f (a ++ b) z ↔ Path f a (b.head?.getD z) ∧ Path f b z
  | [], b, z => by simp [Path]
  | x :: r, b, z => by
    have ih := Path.app (f := f) (a := r) (b := b) (z := z)
    simp only [List.cons_append, Path]
    rw [ih]
    have : (r ++ b).head?.getD z = r.head?.getD (b.head?.getD z) := by cases r <;> simp
    rw [this, and_assoc]
theorem Path.congr {f g : α → α} : ∀ {a : List α} {z : α}, (∀ x ∈ a, g x = f x) → Path f a z → Path g a z
  | [], _, _, _ => trivial
  | x :: r, z, h, p => ⟨(h x (List.mem_cons_self ..)).trans p.1, Path.congr (fun y hy => h y (List.mem_cons_of_mem _ hy)) p.2⟩
/-- A cycle, from its first on. -/
def Cyc (f : α → α) : List α → Prop
  | [] => False
  | x :: r => Path f (x :: r) x
theorem Cyc.two {f : α → α} {x y : α} {a b : List α} : Cyc f ((x :: a) ++ (y :: b)) ↔ Path f (x :: a) y ∧ Path f (y :: b) x := by
  show Path f ((x :: a) ++ (y :: b)) x ↔ _
  rw [Path.app]; rfl
theorem Cyc.rot {f : α → α} : ∀ {a b : List α}, Cyc f (a ++ b) → Cyc f (b ++ a)
  | [], b, h => by simpa using h
  | x :: a, [], h => by simpa using h
  | x :: a, y :: b, h => Cyc.two.2 ⟨(Cyc.two.1 h).2, (Cyc.two.1 h).1⟩
theorem Cyc.ne {f : α → α} {c : List α} (h : Cyc f c) : c ≠ [] := by rintro rfl; exact h
theorem Cyc.congr {f g : α → α} {c : List α} (h : ∀ x ∈ c, g x = f x) (k : Cyc f c) : Cyc g c := by
  cases c with
  | nil => exact k
  | cons x r => exact Path.congr h k
theorem Path.step {f : α → α} : ∀ {a : List α} {z x : α}, Path f a z → x ∈ a → f x ∈ a ∨ f x = z
  | y :: r, z, x, p, hx => by
    rcases List.mem_cons.1 hx with rfl | hx
    · cases r with
      | nil => exact .inr p.1
      | cons u r => exact .inl (by have := p.1; simp at this; rw [this]; simp)
    · rcases Path.step p.2 hx with h | h
      · exact .inl (List.mem_cons_of_mem _ h)
      · exact .inr h
theorem Cyc.step {f : α → α} {c : List α} (h : Cyc f c) {x : α} (hx : x ∈ c) : f x ∈ c := by
  cases c with
  | nil => exact h.elim
  | cons y r =>
    rcases Path.step (show Path f (y :: r) y from h) hx with k | k
    · exact k
    · rw [k]; simp
def it (f : α → α) : Nat → α → α
  | 0, x => x
  | n + 1, x => it f n (f x)
theorem Cyc.it {f : α → α} {c : List α} (h : Cyc f c) : ∀ (n : Nat) {x : α}, x ∈ c → it f n x ∈ c
  | 0, _, hx => hx
  | n + 1, _, hx => Cyc.it h n (h.step hx)
theorem Path.reach {f : α → α} : ∀ {r : List α} {x z : α}, Path f (x :: r) z → ∀ y ∈ x :: r, ∃ n, it f n x = y
  | [], x, z, _, y, hy => by simp at hy; exact ⟨0, hy.symm⟩
  | u :: r, x, z, p, y, hy => by
    rcases List.mem_cons.1 hy with rfl | hy
    · exact ⟨0, rfl⟩
    · have h1 : f x = u := p.1
      obtain ⟨n, hn⟩ := Path.reach p.2 y hy
      exact ⟨n + 1, by show it f n (f x) = y; rw [h1]; exact hn⟩
theorem Cyc.head {f : α → α} {c : List α} (h : Cyc f c) {x : α} (hx : x ∈ c) : ∃ r, Cyc f (x :: r) ∧ (x :: r).Perm c := by
  obtain ⟨a, b, rfl⟩ := List.append_of_mem hx
  exact ⟨b ++ a, Cyc.rot h, List.perm_append_comm (l₁ := x :: b) (l₂ := a)⟩
theorem Cyc.reach {f : α → α} {c : List α} (h : Cyc f c) {x y : α} (hx : x ∈ c) (hy : y ∈ c) : ∃ n, Cy.it f n x = y := by
  obtain ⟨r, h1, h2⟩ := h.head hx
  exact Path.reach (show Path f (x :: r) x from h1) y (h2.mem_iff.2 hy)
/-- Two cycles with something in common have the same things. -/
theorem Cyc.same {f : α → α} {c c' : List α} (h : Cyc f c) (h' : Cyc f c') {x : α} (hx : x ∈ c) (hx' : x ∈ c') {y : α} (hy : y ∈ c) : y ∈ c' := by
  obtain ⟨n, hn⟩ := h.reach hx hy
  rw [← hn]; exact h'.it n hx'

/-- Cycles that have everything of D, once. -/
structure Dec (f : α → α) (D : List α) (cs : List (List α)) : Prop where
  c : ∀ c ∈ cs, Cyc f c
  p : cs.flatten.Perm D
theorem flatten_mid (p q : List (List α)) (c : List α) : (p ++ c :: q).flatten.Perm (c ++ (p ++ q).flatten) := by
  simp only [List.flatten_append, List.flatten_cons]
  rw [← List.append_assoc, ← List.append_assoc]
  exact List.Perm.append_right _ List.perm_append_comm
theorem Dec.count {f : α → α} : ∀ {cs cs' : List (List α)} {D : List α}, D.Nodup → Dec f D cs → Dec f D cs' → cs.length = cs'.length
  | [], cs', D, hn, h, h' => by
    have hD : D = [] := by have := h.p; simp at this; exact this.symm ▸ rfl
    subst hD
    cases cs' with
    | nil => rfl
    | cons c r =>
      have := h'.p.length_eq
      have h1 := (h'.c c (by simp)).ne
      cases c with
      | nil => exact absurd rfl h1
      | cons x c => simp at this
  | c :: r, cs', D, hn, h, h' => by
    have hc := h.c c (by simp)
    obtain ⟨x, c0, rfl⟩ : ∃ x c0, c = x :: c0 := by
      cases c with
      | nil => exact hc.elim
      | cons x c0 => exact ⟨x, c0, rfl⟩
    have hx : x ∈ cs'.flatten := h'.p.mem_iff.2 (h.p.mem_iff.1 (by simp))
    obtain ⟨c', hc', hxc'⟩ := List.mem_flatten.1 hx
    obtain ⟨p, q, rfl⟩ := List.append_of_mem hc'
    have hcc' := h'.c c' (by simp)
    have n1 : (x :: c0).Nodup := by
      have := h.p.nodup_iff.2 hn
      rw [List.flatten_cons] at this
      exact (List.nodup_append.1 this).1
    have n2 : c'.Nodup := by
      have := (flatten_mid p q c').nodup_iff.1 (h'.p.nodup_iff.2 hn)
      exact (List.nodup_append.1 this).1
    have pc : (x :: c0).Perm c' := (List.perm_ext_iff_of_nodup n1 n2).2 fun y => ⟨fun hy => hc.same hcc' (by simp) hxc' hy, fun hy => hcc'.same hc hxc' (by simp) hy⟩
    have pd : ((x :: c0) ++ r.flatten).Perm ((x :: c0) ++ (p ++ q).flatten) := by
      have e1 : ((x :: c0) ++ r.flatten).Perm D := by have := h.p; rwa [List.flatten_cons] at this
      have e2 : (c' ++ (p ++ q).flatten).Perm D := (flatten_mid p q c').symm.trans h'.p
      exact e1.trans (e2.symm.trans (List.Perm.append_right _ pc.symm))
    have pr := (List.perm_append_left_iff _).1 pd
    have hnr : r.flatten.Nodup := by
      have := h.p.nodup_iff.2 hn
      rw [List.flatten_cons] at this
      exact (List.nodup_append.1 this).2.1
    have ih := Dec.count (cs := r) (cs' := p ++ q) (D := r.flatten) hnr ⟨fun c hc => h.c c (by simp [hc]), List.Perm.refl _⟩ ⟨fun c hc => h'.c c (by
      rcases List.mem_append.1 hc with k | k <;> simp [k]), pr.symm⟩
    simp at ih ⊢; omega

/-! ### Two things taken out -/
/-- The last of a path goes to its end. -/
theorem Path.swap_end {f g : α → α} : ∀ {a : List α} {z z' : α}, Path f a z → z ∉ a.tail → (∀ u ∈ a, f u ≠ z → g u = f u) → (∀ u ∈ a, f u = z → g u = z') → Path g a z'
  | [], _, _, _, _, _, _ => trivial
  | [x], z, z', p, hz, h1, h2 => ⟨h2 x (by simp) p.1, trivial⟩
  | x :: y :: r, z, z', p, hz, h1, h2 => by
    have e : f x = y := p.1
    have hne : y ≠ z := fun k => hz (by simp [k])
    refine ⟨(h1 x (by simp) (by rw [e]; exact hne)).trans e, ?_⟩
    exact Path.swap_end p.2 (fun k => hz (List.mem_cons_of_mem _ k)) (fun u hu => h1 u (List.mem_cons_of_mem _ hu)) (fun u hu => h2 u (List.mem_cons_of_mem _ hu))
def nz : List α → Nat
  | [] => 0
  | _ :: _ => 1
def keepL (l : List α) : List (List α) := match l with | [] => [] | x :: r => [x :: r]
theorem keepL_flat (l : List α) : (keepL l).flatten = l := by cases l <;> simp [keepL]
theorem keepL_len (l : List α) : (keepL l).length = nz l := by cases l <;> rfl
theorem tail_mem {l : List α} {z : α} (h : z ∈ l.tail) : z ∈ l := List.mem_of_mem_tail h
section
variable [DecidableEq α]
/-- Where things go when x and y are taken out. -/
def outF (f' : α → α) (x y : α) (z : α) : α :=
  if f' z = x then (if f' y = y then f' x else f' y) else if f' z = y then (if f' x = x then f' y else f' x) else f' z
theorem Dec.out_same {f' f : α → α} {x y : α} {D : List α} {cs' : List (List α)} {c : List α} (hxy : x ≠ y) (hn : (x :: y :: D).Nodup) (h : Dec f' (x :: y :: D) cs') (hf : ∀ z ∈ D, f z = outF f' x y z) (hc : c ∈ cs') (hx : x ∈ c) (hy : y ∈ c) :
    ∃ cs, Dec f D cs ∧ cs.length + 1 = cs'.length + (if f' x = y then 0 else 1) + (if f' y = x then 0 else 1) := by
  obtain ⟨p, q, rfl⟩ := List.append_of_mem hc
  have hcc := h.c c hc
  obtain ⟨r, h1, h2⟩ := hcc.head hx
  have hyr : y ∈ r := by
    rcases List.mem_cons.1 (h2.mem_iff.2 hy) with k | k
    · exact absurd k.symm hxy
    · exact k
  obtain ⟨B, A, rfl⟩ := List.append_of_mem hyr
  have h3 : Cyc f' ((x :: B) ++ (y :: A)) := h1
  obtain ⟨⟨fx, pB⟩, ⟨fy, pA⟩⟩ := Cyc.two.1 h3
  have pd : (x :: y :: (B ++ A ++ (p ++ q).flatten)).Perm (x :: y :: D) := by
    refine List.Perm.trans ?_ h.p
    refine List.Perm.trans ?_ (flatten_mid p q c).symm
    refine List.Perm.trans ?_ (List.Perm.append_right _ h2)
    show (x :: y :: (B ++ A ++ (p ++ q).flatten)).Perm (x :: ((B ++ y :: A) ++ (p ++ q).flatten))
    refine List.Perm.cons x ?_
    rw [List.append_assoc B (y :: A), List.cons_append, List.append_assoc]
    exact List.perm_middle.symm
  have pD := (pd.cons_inv).cons_inv
  have nd := pd.nodup_iff.2 hn
  have nx : x ∉ B ++ A ++ (p ++ q).flatten := fun k => (List.nodup_cons.1 nd).1 (List.mem_cons_of_mem _ k)
  have ny : y ∉ B ++ A ++ (p ++ q).flatten := (List.nodup_cons.1 (List.nodup_cons.1 nd).2).1
  have xB : x ∉ B := fun k => nx (by simp [k])
  have xA : x ∉ A := fun k => nx (by simp [k])
  have yB : y ∉ B := fun k => ny (by simp [k])
  have yA : y ∉ A := fun k => ny (by simp [k])
  have inD : ∀ z ∈ B ++ A ++ (p ++ q).flatten, z ∈ D := fun z hz => pD.mem_iff.1 hz
  have cB : ∀ c ∈ keepL B, Cyc f c := fun c hc => by
    cases B with
    | nil => simp [keepL] at hc
    | cons b B =>
      have hc : c = b :: B := by simpa [keepL] using hc
      subst hc
      have fx : f' x = b := fx
      have bx : b ≠ x := fun k => xB (by simp [k])
      refine Path.swap_end pB (fun k => yB (tail_mem k)) (fun u hu hne => ?_) (fun u hu heq => ?_)
      · rw [hf u (inD u (by simp at hu ⊢; rcases hu with k | k <;> simp [k]))]
        unfold outF
        have : f' u ≠ x := fun k => by
          rcases pB.step hu with m | m
          · exact xB (k ▸ m)
          · exact hne m
        rw [if_neg this, if_neg hne]
      · rw [hf u (inD u (by simp at hu ⊢; rcases hu with k | k <;> simp [k]))]
        unfold outF
        rw [if_neg (by rw [heq]; exact fun k => hxy k.symm), if_pos heq, if_neg (by rw [fx]; exact bx), fx]
  have cA : ∀ c ∈ keepL A, Cyc f c := fun c hc => by
    cases A with
    | nil => simp [keepL] at hc
    | cons a A =>
      have hc : c = a :: A := by simpa [keepL] using hc
      subst hc
      have fy : f' y = a := fy
      have ay : a ≠ y := fun k => yA (by simp [k])
      refine Path.swap_end pA (fun k => xA (tail_mem k)) (fun u hu hne => ?_) (fun u hu heq => ?_)
      · rw [hf u (inD u (by simp at hu ⊢; rcases hu with k | k <;> simp [k]))]
        unfold outF
        have : f' u ≠ y := fun k => by
          rcases pA.step hu with m | m
          · exact yA (k ▸ m)
          · exact hne m
        rw [if_neg hne, if_neg this]
      · rw [hf u (inD u (by simp at hu ⊢; rcases hu with k | k <;> simp [k]))]
        unfold outF
        rw [if_pos heq, if_neg (by rw [fy]; exact ay), fy]
  have cR : ∀ c ∈ p ++ q, Cyc f c := fun c hc => by
    have hc' : c ∈ p ++ ((x :: B) ++ (y :: A)) :: q := by
      rcases List.mem_append.1 hc with k | k <;> simp [k]
    have hcyc : Cyc f' c := h.c c (by rcases List.mem_append.1 hc with k | k <;> simp [k])
    refine hcyc.congr fun z hz => ?_
    have hzf : ∀ u ∈ c, u ∈ (p ++ q).flatten := fun u hu => List.mem_flatten.2 ⟨c, hc, hu⟩
    have hm := hzf _ (hcyc.step hz)
    rw [hf z (inD z (List.mem_append_right _ (hzf z hz)))]
    unfold outF
    rw [if_neg (fun k => nx (List.mem_append_right _ (by rw [← k]; exact hm))), if_neg (fun k => ny (List.mem_append_right _ (by rw [← k]; exact hm)))]
  refine ⟨keepL B ++ (keepL A ++ (p ++ q)), ⟨fun c hc => ?_, ?_⟩, ?_⟩
  · rcases List.mem_append.1 hc with k | k
    · exact cB c k
    rcases List.mem_append.1 k with k | k
    · exact cA c k
    · exact cR c k
  · rw [List.flatten_append, List.flatten_append, keepL_flat, keepL_flat, ← List.append_assoc]
    exact pD
  · have eB : (if f' x = y then 0 else 1) = nz B := by
      cases B with
      | nil => exact if_pos fx
      | cons b B => exact if_neg (fun k => yB (by rw [← k, show f' x = b from fx]; simp))
    have eA : (if f' y = x then 0 else 1) = nz A := by
      cases A with
      | nil => exact if_pos fy
      | cons a A => exact if_neg (fun k => xA (by rw [← k, show f' y = a from fy]; simp))
    rw [eB, eA]
    simp only [List.length_append, keepL_len, List.length_cons]
    omega
end
end Go.Cy

set_option linter.unusedVariables false
set_option linter.unusedSimpArgs false
namespace Go.Vs
open Go.Proofs Go.Cy

/-- Where one goes that would go to x. -/
def skip (x : Dart) (s : Dart → Dart) (z : Dart) : Dart := if s z = x then s x else s z
/-- The next one in a ring. -/
def nextR (row : List Dart) (x : Dart) : Dart := (stepD row x 1).getD zD
theorem nextR_at {row : List Dart} (hn : row.Nodup) {i : Nat} {x : Dart} (hx : row[i]? = some x) : nextR row x = (row[(i + 1) % row.length]?).getD zD := by
  unfold nextR stepD
  rw [if_pos (List.mem_of_getElem? hx), idx_get hn hx, Int.toNat_natCast]
theorem next_path {row : List Dart} (hn : row.Nodup) : ∀ (r p : List Dart), row = p ++ r → Path (nextR row) r (row.head?.getD zD)
  | [], _, _ => trivial
  | x :: r, p, h => by
    refine ⟨?_, next_path hn r (p ++ [x]) (by rw [h]; simp)⟩
    have hx : row[p.length]? = some x := by rw [h]; simp
    rw [nextR_at hn hx]
    cases r with
    | nil =>
      have hl : row.length = p.length + 1 := by rw [h]; simp
      rw [hl, Nat.mod_self]
      show (row[0]?).getD zD = row.head?.getD zD
      rw [List.head?_eq_getElem?]
    | cons y r =>
      have hl : p.length + 1 < row.length := by rw [h]; simp
      rw [Nat.mod_eq_of_lt hl]
      have : row[p.length + 1]? = some y := by rw [h]; simp
      rw [this]; rfl
theorem next_cyc {row : List Dart} (hn : row.Nodup) (h0 : row ≠ []) : Cyc (nextR row) row := by
  have := next_path hn row [] rfl
  cases row with
  | nil => exact absurd rfl h0
  | cons x r => exact this
theorem path_agree {f g : Dart → Dart} : ∀ {a : List Dart} {z : Dart}, Path f a z → Path g a z → ∀ x ∈ a, f x = g x
  | y :: r, z, p, q, x, hx => by
    rcases List.mem_cons.1 hx with rfl | hx
    · exact p.1.trans q.1.symm
    · exact path_agree p.2 q.2 x hx
theorem cyc_agree {f g : Dart → Dart} {c : List Dart} (h : Cyc f c) (k : Cyc g c) : ∀ x ∈ c, f x = g x := by
  cases c with
  | nil => exact h.elim
  | cons y r => exact path_agree h k
theorem cyc_rotR {f : Dart → Dart} {row : List Dart} {j : Nat} (h : Cyc f (rot row j)) : Cyc f row := by
  unfold rot at h
  have := Cyc.rot h
  rwa [List.take_append_drop] at this
theorem nextR_mem {row : List Dart} (hn : row.Nodup) {x : Dart} (hx : x ∈ row) : nextR row x ∈ row := (next_cyc hn (List.ne_nil_of_mem hx)).step hx
theorem path_last {f : Dart → Dart} : ∀ {a : List Dart} {z : Dart}, Path f a z → a ≠ [] → ∃ l, l ∈ a ∧ f l = z
  | [x], z, p, _ => ⟨x, by simp, p.1⟩
  | x :: y :: r, z, p, _ => by
    obtain ⟨l, h1, h2⟩ := path_last p.2 (by simp)
    exact ⟨l, List.mem_cons_of_mem _ h1, h2⟩
theorem nextR_inj {row : List Dart} (hn : row.Nodup) {x y : Dart} (hx : x ∈ row) (hy : y ∈ row) (h : nextR row x = nextR row y) : x = y := by
  obtain ⟨i, hi⟩ := List.getElem?_of_mem hx
  obtain ⟨j, hj⟩ := List.getElem?_of_mem hy
  have hil := (List.getElem?_eq_some_iff.1 hi).1
  have hjl := (List.getElem?_eq_some_iff.1 hj).1
  have hp : 0 < row.length := by omega
  rw [nextR_at hn hi, nextR_at hn hj, List.getElem?_eq_getElem (Nat.mod_lt _ hp), List.getElem?_eq_getElem (Nat.mod_lt _ hp)] at h
  have h2 : (i + 1) % row.length = (j + 1) % row.length := nodup_inj hn (by simpa using h)
  have h3 : i = j := by
    by_cases a : i + 1 < row.length <;> by_cases b : j + 1 < row.length
    · rw [Nat.mod_eq_of_lt a, Nat.mod_eq_of_lt b] at h2; omega
    · have : j + 1 = row.length := by omega
      rw [Nat.mod_eq_of_lt a, this, Nat.mod_self] at h2; omega
    · have : i + 1 = row.length := by omega
      rw [Nat.mod_eq_of_lt b, this, Nat.mod_self] at h2; omega
    · omega
  subst h3
  rw [hi] at hj; exact Option.some.inj hj
theorem remR_next {row : List Dart} (hn : row.Nodup) {x z : Dart} (hx : x ∈ row) (hz : z ∈ row) (hzx : z ≠ x) : nextR (remR row x) z = skip x (nextR row) z := by
  obtain ⟨A, B, rfl⟩ := List.append_of_mem hx
  obtain ⟨k, hk⟩ := List.getElem?_of_mem hx
  have he : (A ++ x :: B).filter (fun e => decide (e ≠ x)) = A ++ B := by
    have hx2 : (A ++ x :: B)[A.length]? = some x := by simp
    rw [erase_one hn hx2]; simp
  have hnx : (x :: (B ++ A)).Nodup := by
    have p : (A ++ x :: B).Perm (x :: (B ++ A)) := List.perm_middle.trans (List.Perm.cons x List.perm_append_comm)
    exact p.nodup_iff.1 hn
  have hz2 : z ∈ B ++ A := by
    rcases List.mem_append.1 hz with k | k
    · exact List.mem_append_right _ k
    · rcases List.mem_cons.1 k with k | k
      · exact absurd k hzx
      · exact List.mem_append_left _ k
  have c1 : Cyc (nextR (A ++ x :: B)) (x :: (B ++ A)) := by
    have := (next_cyc hn (List.ne_nil_of_mem hx)).rot
    simpa using this
  obtain ⟨fx, pL⟩ := (show Path (nextR (A ++ x :: B)) (x :: (B ++ A)) x from c1)
  have c2 : Cyc (skip x (nextR (A ++ x :: B))) (B ++ A) := by
    generalize hL : B ++ A = L at *
    cases L with
    | nil => simp at hz2
    | cons l L =>
      have fx : nextR (A ++ x :: B) x = l := fx
      have hxl : x ∉ l :: L := (List.nodup_cons.1 hnx).1
      refine Path.swap_end pL (fun k => hxl (tail_mem k)) (fun u hu hne => ?_) (fun u hu heq => ?_)
      · unfold skip; rw [if_neg hne]
      · unfold skip; rw [if_pos heq, fx]
  have hr : remR (A ++ x :: B) x = turn (A ++ B) := by unfold remR; rw [he]
  obtain ⟨j, hj, hjr⟩ := turn_is_rot (A ++ B)
  have nAB : (A ++ B).Nodup := (List.perm_append_comm (l₁ := B) (l₂ := A)).nodup_iff.1 (List.nodup_cons.1 hnx).2
  have nrem : (remR (A ++ x :: B) x).Nodup := by rw [hr]; exact (turn_perm _).nodup_iff.2 nAB
  have hzm : z ∈ remR (A ++ x :: B) x := by
    rw [hr, mem_turn]
    rcases List.mem_append.1 hz2 with k | k
    · exact List.mem_append_right _ k
    · exact List.mem_append_left _ k
  have c3 : Cyc (nextR (remR (A ++ x :: B) x)) (A ++ B) := by
    have := next_cyc nrem (List.ne_nil_of_mem hzm)
    generalize nextR (remR (A ++ x :: B) x) = g at *
    rw [hr, hjr] at this
    exact cyc_rotR this
  exact cyc_agree (Cyc.rot c3) c2 z hz2

/-! ### Round the vertices -/
def sg (d : Diag) (x : Dart) : Dart := (sigma d x).getD zD
def ph (d : Diag) (x : Dart) : Dart := (phi d x).getD zD
theorem sigma_of {d : Diag} (h : Rw d.1) {v : Vert} {x : Dart} (hv : v ∈ d.1) (hx : x ∈ v.2.1) : sigma d x = stepD v.2.1 x 1 := by
  unfold sigma atD
  rw [atV_of h hv hx]
  show stepD (ringAt d v.1) x 1 = _
  rw [ringAt_of h.s hv]
theorem sg_of {d : Diag} (h : Rw d.1) {v : Vert} {x : Dart} (hv : v ∈ d.1) (hx : x ∈ v.2.1) : sg d x = nextR v.2.1 x := by
  unfold sg nextR; rw [sigma_of h hv hx]
theorem sigma_some {d : Diag} (h : Rw d.1) {x : Dart} (hx : x ∈ darts d.1) : sigma d x = some (sg d x) := by
  obtain ⟨v, hv, hxv⟩ := mem_darts.1 hx
  have : sigma d x = some (nextR v.2.1 x) := by
    rw [sigma_of h hv hxv]
    unfold nextR stepD
    rw [if_pos hxv]
    have hp : 0 < v.2.1.length := List.length_pos_of_mem hxv
    rw [List.getElem?_eq_getElem (Nat.mod_lt _ hp)]; rfl
  rw [sg_of h hv hxv, this]
theorem sgD_mem {d : Diag} (h : Rw d.1) {x : Dart} (hx : x ∈ darts d.1) : sg d x ∈ darts d.1 := by
  obtain ⟨v, hv, hxv⟩ := mem_darts.1 hx
  rw [sg_of h hv hxv]
  exact mem_darts.2 ⟨v, hv, nextR_mem (h.ring hv) hxv⟩
theorem sg_inj {d : Diag} (h : Rw d.1) {x y : Dart} (hx : x ∈ darts d.1) (hy : y ∈ darts d.1) (he : sg d x = sg d y) : x = y := by
  obtain ⟨v, hv, hxv⟩ := mem_darts.1 hx
  obtain ⟨w, hw, hyw⟩ := mem_darts.1 hy
  rw [sg_of h hv hxv, sg_of h hw hyw] at he
  have h1 := nextR_mem (h.ring hv) hxv
  have h2 := nextR_mem (h.ring hw) hyw
  rw [← he] at h2
  have hwv := h.one hv hw h1 h2
  subst hwv
  exact nextR_inj (h.ring hw) hxv hyw he
theorem removed_sg {d : Diag} (h : Rw d.1) {x z : Dart} (hx : x ∈ darts d.1) (hz : z ∈ darts (removed d x).1) : sg (removed d x) z = skip x (sg d) z := by
  obtain ⟨p, q⟩ := removed_perm h hx
  obtain ⟨v, hv, hxv⟩ := mem_darts.1 hx
  have hzd : z ∈ darts d.1 := p.mem_iff.2 (List.mem_cons_of_mem _ hz)
  have hzx : z ≠ x := fun k => (List.nodup_cons.1 (p.nodup_iff.1 h.n)).1 (k ▸ hz)
  obtain ⟨w, hw, hzw⟩ := mem_darts.1 hz
  have hr := removed_of h hv hxv
  have hw' : w ∈ d.1.map (reR v.1 (remR v.2.1 x)) := by rw [hr] at hw; exact hw
  obtain ⟨u, hu, hwu⟩ := List.mem_map.1 hw'
  rw [sg_of q hw hzw]
  by_cases huv : u.1 = v.1
  · have huv : u = v := by
      have h1 := findV_of h.s hv
      have h2 := findV_of h.s hu
      rw [huv, h1] at h2
      exact (Option.some.inj h2).symm
    subst huv
    have hwr : w.2.1 = remR u.2.1 x := by rw [← hwu]; unfold reR; rw [if_pos rfl]
    rw [hwr] at hzw ⊢
    have hzu : z ∈ u.2.1 := (remR_perm hxv (h.ring hu)).mem_iff.2 (List.mem_cons_of_mem _ hzw)
    rw [remR_next (h.ring hu) hxv hzu hzx]
    unfold skip
    rw [sg_of h hu hzu, sg_of h hu hxv]
  · have hwr : w = u := by rw [← hwu]; unfold reR; rw [if_neg huv]
    subst hwr
    unfold skip
    rw [sg_of h hu hzw, if_neg]
    intro k
    have := nextR_mem (h.ring hu) hzw
    rw [k] at this
    exact huv (congrArg Prod.fst (h.one hv hu hxv this))
theorem sigma_congr {d e : Diag} (h : d.1 = e.1) (x : Dart) : sigma d x = sigma e x := by
  obtain ⟨a, b⟩ := d
  obtain ⟨c, f⟩ := e
  simp only at h
  subst h
  rfl

/-! ### Round the faces -/
theorem otherD_other {x : Dart} (h : x.2 = 0 ∨ x.2 = 1) : otherD (otherD x) = x := by
  obtain ⟨x1, x2⟩ := x
  simp only at h
  rcases h with rfl | rfl <;> rfl
theorem Wf.side {d : Diag} (h : Wf d) {x : Dart} (hx : x ∈ darts d.1) : x.2 = 0 ∨ x.2 = 1 := by
  obtain ⟨e, _, _, k⟩ := mem_ends.1 (h.pd.mem_iff.1 hx); exact k
theorem Wf.other {d : Diag} (h : Wf d) {x : Dart} (hx : x ∈ darts d.1) : otherD x ∈ darts d.1 := by
  obtain ⟨e, he, h1, h2⟩ := mem_ends.1 (h.pd.mem_iff.1 hx)
  refine h.pd.mem_iff.2 (mem_ends.2 ⟨e, he, h1, ?_⟩)
  obtain ⟨_, k⟩ := otherD_in h2
  rcases k with ⟨_, k⟩ | ⟨_, k⟩
  · exact .inr k
  · exact .inl k
theorem atD_some {d : Diag} {x : Dart} (hx : x ∈ darts d.1) : (atD d x).isSome = true := by
  obtain ⟨v, hv, hxv⟩ := mem_darts.1 hx
  unfold atD atV
  rw [Option.isSome_map, List.find?_isSome]
  exact ⟨v, hv, by simpa using hxv⟩
theorem ph_of {d : Diag} {x : Dart} (hx : x ∈ darts d.1) : ph d x = sg d (otherD x) := by
  unfold ph phi sg
  rw [if_pos (atD_some hx)]
theorem phi_some {d : Diag} (h : Wf d) {x : Dart} (hx : x ∈ darts d.1) : phi d x = some (ph d x) := by
  rw [ph_of hx]
  unfold phi
  rw [if_pos (atD_some hx)]
  exact sigma_some h.rw (h.other hx)
theorem ph_mem {d : Diag} (h : Wf d) {x : Dart} (hx : x ∈ darts d.1) : ph d x ∈ darts d.1 := by
  rw [ph_of hx]; exact sgD_mem h.rw (h.other hx)
theorem ph_inj {d : Diag} (h : Wf d) {x y : Dart} (hx : x ∈ darts d.1) (hy : y ∈ darts d.1) (he : ph d x = ph d y) : x = y := by
  rw [ph_of hx, ph_of hy] at he
  have := sg_inj h.rw (h.other hx) (h.other hy) he
  rw [← otherD_other (h.side hx), ← otherD_other (h.side hy), this]
theorem nodup_le {α : Type} [DecidableEq α] : ∀ {l D : List α}, l.Nodup → (∀ x ∈ l, x ∈ D) → l.length ≤ D.length
  | [], _, _, _ => Nat.zero_le _
  | x :: r, D, hn, hs => by
    have h1 := List.nodup_cons.1 hn
    have hx := hs x (List.mem_cons_self ..)
    have ih := nodup_le (l := r) (D := D.erase x) h1.2 (fun y hy => (List.mem_erase_of_ne (fun k => h1.1 (by rw [← k]; exact hy))).2 (hs y (List.mem_cons_of_mem _ hy)))
    rw [List.length_erase_of_mem hx] at ih
    have := List.length_pos_of_mem hx
    simp; omega
theorem not_back {d : Diag} (h : Wf d) {out : List Dart} {y : Dart} (hn : out.Nodup) (hs : ∀ z ∈ out, z ∈ darts d.1) (hp : Path (ph d) out y) : y ∉ out.tail := fun hy => by
  cases out with
  | nil => simp at hy
  | cons x r =>
    have hy : y ∈ r := hy
    obtain ⟨p, q, rfl⟩ := List.append_of_mem hy
    -- the one ahead of y
    have key : ∀ (x : Dart) (p : List Dart), Path (ph d) (x :: (p ++ y :: q)) y → (x :: (p ++ y :: q)).Nodup → (∀ z ∈ x :: (p ++ y :: q), z ∈ darts d.1) → False := by
      intro x p
      induction p generalizing x with
      | nil =>
        intro hp hn hs
        have h1 : ph d x = y := hp.1
        obtain ⟨l, h2, h3⟩ := path_last hp.2 (by simp)
        have := ph_inj h (hs x (by simp)) (hs l (List.mem_cons_of_mem _ h2)) (h1.trans h3.symm)
        subst this
        exact (List.nodup_cons.1 hn).1 h2
      | cons u p ih =>
        intro hp hn hs
        exact ih u hp.2 (List.nodup_cons.1 hn).2 (fun z hz => hs z (List.mem_cons_of_mem _ hz))
    exact key x p hp hn hs
theorem Wf.darts_le {d : Diag} (h : Wf d) : (darts d.1).length ≤ 80 := by
  have h2 := h.pd.length_eq
  have h3 := h.ne
  have : (ends d.2).length = 2 * d.2.length := by
    clear h2 h3 h
    generalize d.2 = l
    induction l with
    | nil => rfl
    | cons e r ih => rw [ends_cons]; simp [ih]; omega
  omega
theorem traceF_cyc {d : Diag} (h : Wf d) (x : Dart) : ∀ (n : Nat) (y : Dart) (r : List Dart), (x :: r).length + n = 82 → (x :: r).Nodup → (∀ z ∈ x :: r, z ∈ darts d.1) → Path (ph d) (x :: r) y → y ∈ darts d.1 →
    ∃ r', traceF d x n y (x :: r) = x :: r' ∧ (x :: r').Nodup ∧ (∀ z ∈ x :: r', z ∈ darts d.1) ∧ Cyc (ph d) (x :: r')
  | 0, y, r, hl, hn, hs, hp, hy => by
    have := nodup_le hn hs
    have := h.darts_le
    omega
  | n + 1, y, r, hl, hn, hs, hp, hy => by
    unfold traceF
    by_cases he : y = x
    · subst he
      rw [if_pos rfl]
      exact ⟨r, rfl, hn, hs, hp⟩
    · rw [if_neg he]
      have hyr : y ∉ x :: r := fun k => by
        rcases List.mem_cons.1 k with k | k
        · exact he k
        · exact not_back h hn hs hp k
      have e : (phi d y).getD zD = ph d y := rfl
      rw [e]
      refine traceF_cyc h x n (ph d y) (r ++ [y]) (by simp at hl ⊢; omega) ?_ (fun z hz => ?_) ?_ (ph_mem h hy)
      · show ((x :: r) ++ [y]).Nodup
        refine List.nodup_append.2 ⟨hn, by simp, fun a ha b hb => ?_⟩
        simp at hb; subst hb
        exact fun k => hyr (k ▸ ha)
      · have hz : z ∈ (x :: r) ++ [y] := hz
        rcases List.mem_append.1 hz with k | k
        · exact hs z k
        · simp at k; rw [k]; exact hy
      · show Path (ph d) ((x :: r) ++ [y]) (ph d y)
        exact Path.app.2 ⟨hp, rfl, trivial⟩
theorem traceR_cyc {d : Diag} (h : Wf d) {x : Dart} (hx : x ∈ darts d.1) : ∃ r, traceR d x = x :: r ∧ (x :: r).Nodup ∧ (∀ z ∈ x :: r, z ∈ darts d.1) ∧ Cyc (ph d) (x :: r) := by
  unfold traceR
  rw [phi_some h hx]
  exact traceF_cyc h x 81 (ph d x) [] rfl (by simp) (fun z hz => by simp at hz; rw [hz]; exact hx) ⟨rfl, trivial⟩ (ph_mem h hx)
theorem facesGo_dec {d : Diag} (h : Wf d) : ∀ (l : List Dart) (out : List (List Dart)), (∀ x ∈ l, x ∈ darts d.1) → (∀ c ∈ out, Cyc (ph d) c) → out.flatten.Nodup → (∀ x ∈ out.flatten, x ∈ darts d.1) →
    (∀ c ∈ facesGo d l out out.flatten, Cyc (ph d) c) ∧ (facesGo d l out out.flatten).flatten.Nodup ∧ (∀ x ∈ (facesGo d l out out.flatten).flatten, x ∈ darts d.1) ∧ (∀ x, x ∈ l ∨ x ∈ out.flatten → x ∈ (facesGo d l out out.flatten).flatten)
  | [], out, _, h1, h2, h3 => ⟨h1, h2, h3, fun x k => k.resolve_left (by simp)⟩
  | x :: l, out, hl, h1, h2, h3 => by
    unfold facesGo
    by_cases hx : x ∈ out.flatten
    · rw [if_pos hx]
      obtain ⟨a, b, c, e⟩ := facesGo_dec h l out (fun y hy => hl y (List.mem_cons_of_mem _ hy)) h1 h2 h3
      refine ⟨a, b, c, fun y hy => e y ?_⟩
      rcases hy with hy | hy
      · rcases List.mem_cons.1 hy with rfl | hy
        · exact .inr hx
        · exact .inl hy
      · exact .inr hy
    · rw [if_neg hx]
      obtain ⟨r, t1, t2, t3, t4⟩ := traceR_cyc h (hl x (List.mem_cons_self ..))
      have ef : out.flatten ++ traceR d x = (out ++ [traceR d x]).flatten := by simp
      rw [ef]
      have hdis : ∀ y ∈ traceR d x, y ∉ out.flatten := fun y hy k => by
        obtain ⟨c, hc, hyc⟩ := List.mem_flatten.1 k
        rw [t1] at hy
        exact hx (List.mem_flatten.2 ⟨c, hc, t4.same (h1 c hc) hy hyc (List.mem_cons_self ..)⟩)
      obtain ⟨a, b, c, e⟩ := facesGo_dec h l (out ++ [traceR d x]) (fun y hy => hl y (List.mem_cons_of_mem _ hy))
        (fun c hc => by
          rcases List.mem_append.1 hc with k | k
          · exact h1 c k
          · simp at k; rw [k, t1]; exact t4)
        (by
          rw [← ef]
          refine List.nodup_append.2 ⟨h2, by rw [t1]; exact t2, fun u hu w hw k => hdis w hw (k ▸ hu)⟩)
        (fun y hy => by
          rw [← ef] at hy
          rcases List.mem_append.1 hy with k | k
          · exact h3 y k
          · rw [t1] at k; exact t3 y k)
      refine ⟨a, b, c, fun y hy => e y ?_⟩
      rw [← ef]
      rcases hy with hy | hy
      · rcases List.mem_cons.1 hy with rfl | hy
        · exact .inr (List.mem_append_right _ (by rw [t1]; simp))
        · exact .inl hy
      · exact .inr (List.mem_append_left _ hy)
theorem dartsOf_ends : ∀ l : List EdgeT, dartsOf l = ends l
  | [] => rfl
  | e :: r => by rw [ends_cons, dartsOf, dartsOf_ends r]
/-- The reference's faces are the cycles of what goes round them. -/
theorem faces_dec {d : Diag} (h : Wf d) : Dec (ph d) (darts d.1) (faces d) := by
  obtain ⟨a, b, c, e⟩ := facesGo_dec h (dartsOf d.2) [] (fun x hx => h.pd.mem_iff.2 (by rw [← dartsOf_ends]; exact hx)) (by simp) (by simp) (by simp)
  refine ⟨a, (List.perm_ext_iff_of_nodup b h.rw.n).2 fun x => ⟨c x, fun hx => e x (.inl (by rw [dartsOf_ends]; exact h.pd.mem_iff.1 hx))⟩⟩
end Go.Vs

set_option linter.unusedVariables false
set_option linter.unusedSimpArgs false
namespace Go.Vs
open Go.Proofs Go.Cy

def cutD (d : Diag) (x : ID) : Diag := without (removed (removed d (x, 0)) (x, 1)) zI x
theorem dropV_zero {d : Diag} (h : Wf d) (x y : Dart) (e : ID) : (without (removed (removed d x) y) zI e).1 = (removed (removed d x) y).1 := drop_zV (removed_gv (removed_gv h.gv x) y)
theorem other0 (x : ID) : otherD (x, 0) = (x, 1) := rfl
theorem other1 (x : ID) : otherD (x, 1) = (x, 0) := rfl
structure CutOf (d' : Diag) (x : ID) : Prop where
  wf : Wf d'
  e : (findE d'.2 x).isSome = true
theorem CutOf.x0 {d' : Diag} {x : ID} (h : CutOf d' x) : (x, 0) ∈ darts d'.1 := h.wf.is_end h.e (.inl rfl)
theorem CutOf.x1 {d' : Diag} {x : ID} (h : CutOf d' x) : (x, 1) ∈ darts d'.1 := h.wf.is_end h.e (.inr rfl)
theorem CutOf.p1 {d' : Diag} {x : ID} (h : CutOf d' x) : (darts d'.1).Perm ((x, 0) :: darts (removed d' (x, 0)).1) ∧ Rw (removed d' (x, 0)).1 := removed_perm h.wf.rw h.x0
theorem CutOf.x1' {d' : Diag} {x : ID} (h : CutOf d' x) : (x, 1) ∈ darts (removed d' (x, 0)).1 := by
  rcases List.mem_cons.1 (h.p1.1.mem_iff.1 h.x1) with k | k
  · cases k
  · exact k
theorem CutOf.p2 {d' : Diag} {x : ID} (h : CutOf d' x) : (darts (removed d' (x, 0)).1).Perm ((x, 1) :: darts (removed (removed d' (x, 0)) (x, 1)).1) ∧ Rw (removed (removed d' (x, 0)) (x, 1)).1 := removed_perm h.p1.2 h.x1'
theorem CutOf.v {d' : Diag} {x : ID} (h : CutOf d' x) : (cutD d' x).1 = (removed (removed d' (x, 0)) (x, 1)).1 := dropV_zero h.wf _ _ _
theorem CutOf.w {d' : Diag} {x : ID} (h : CutOf d' x) : Wf (cutD d' x) := h.wf.cut h.e
theorem CutOf.p {d' : Diag} {x : ID} (h : CutOf d' x) : (darts d'.1).Perm ((x, 0) :: (x, 1) :: darts (cutD d' x).1) := by
  rw [h.v]; exact h.p1.1.trans (List.Perm.cons _ h.p2.1)
theorem CutOf.sg {d' : Diag} {x : ID} (h : CutOf d' x) {z : Dart} (hz : z ∈ darts (cutD d' x).1) : sg (cutD d' x) z = skip (x, 1) (skip (x, 0) (sg d')) z := by
  have e1 : Vs.sg (cutD d' x) z = Vs.sg (removed (removed d' (x, 0)) (x, 1)) z := by unfold Vs.sg; rw [sigma_congr h.v]
  rw [h.v] at hz
  have hz1 : z ∈ darts (removed d' (x, 0)).1 := h.p2.1.mem_iff.2 (List.mem_cons_of_mem _ hz)
  rw [e1, removed_sg h.p1.2 h.x1' hz]
  unfold skip
  rw [removed_sg h.wf.rw h.x0 hz1, removed_sg h.wf.rw h.x0 h.x1']
  rfl
theorem CutOf.ph {d' : Diag} {x : ID} (h : CutOf d' x) {z : Dart} (hz : z ∈ darts (cutD d' x).1) : ph (cutD d' x) z = outF (ph d') (x, 0) (x, 1) z := by
  have hz' : z ∈ darts d'.1 := h.p.mem_iff.2 (List.mem_cons_of_mem _ (List.mem_cons_of_mem _ hz))
  have ho := h.w.other hz
  have ho' : otherD z ∈ darts d'.1 := h.p.mem_iff.2 (List.mem_cons_of_mem _ (List.mem_cons_of_mem _ ho))
  have nd := h.p.nodup_iff.1 h.wf.rw.n
  have hw1 : otherD z ≠ (x, 1) := fun k => (List.nodup_cons.1 (List.nodup_cons.1 nd).2).1 (k ▸ ho)
  rw [ph_of hz, h.sg ho]
  unfold outF
  rw [ph_of hz', ph_of h.x0, ph_of h.x1, other0, other1]
  generalize hW : otherD z = w at *
  have inj : Vs.sg d' (x, 1) = (x, 0) → Vs.sg d' w ≠ (x, 0) := fun k1 k2 => hw1 (sg_inj h.wf.rw ho' h.x1 (k2.trans k1.symm))
  unfold skip
  by_cases c1 : Vs.sg d' w = (x, 0)
  · rw [if_pos c1]
    by_cases c2 : Vs.sg d' (x, 0) = (x, 1)
    · rw [if_pos c2, if_pos c2]
      by_cases c3 : Vs.sg d' (x, 1) = (x, 0)
      · exact absurd c1 (inj c3)
      · rw [if_neg c3, if_pos c1]
    · rw [if_neg c2, if_neg c2, if_pos c1]
  · rw [if_neg c1]
    by_cases c2 : Vs.sg d' w = (x, 1)
    · rw [if_pos c2, if_neg c1]
    · rw [if_neg c2, if_neg c1]

/-! ### Vertices alone -/
def al (l : List Vert) : Nat := l.countP fun v => v.2.1.isEmpty
theorem nextR_one {row : List Dart} (hn : row.Nodup) {x : Dart} (hx : x ∈ row) : nextR row x = x ↔ row.length = 1 := by
  obtain ⟨i, hi⟩ := List.getElem?_of_mem hx
  have hil := (List.getElem?_eq_some_iff.1 hi).1
  have hp : 0 < row.length := by omega
  rw [nextR_at hn hi, List.getElem?_eq_getElem (Nat.mod_lt _ hp)]
  constructor
  · intro h
    have h1 : row[(i + 1) % row.length]? = some x := by rw [List.getElem?_eq_getElem (Nat.mod_lt _ hp)]; exact congrArg some (by simpa using h)
    have h2 := nodup_get hn h1 hi
    by_cases c : i + 1 < row.length
    · rw [Nat.mod_eq_of_lt c] at h2; omega
    · have : i + 1 = row.length := by omega
      rw [this, Nat.mod_self] at h2; omega
  · intro h
    have h0 : i = 0 := by omega
    subst h0
    have : (0 + 1) % row.length = 0 := by rw [h]
    simp only [this]
    obtain ⟨h1, h2⟩ := List.getElem?_eq_some_iff.1 hi
    simpa using h2
theorem al_removed {d : Diag} (h : Rw d.1) {x : Dart} (hx : x ∈ darts d.1) : al (removed d x).1 = al d.1 + if sg d x = x then 1 else 0 := by
  obtain ⟨v, hv, hxv⟩ := mem_darts.1 hx
  obtain ⟨a, b, h1, _, _, h2⟩ := splitV h.s hv
  have e1 : (removed d x).1 = a ++ (v.1, (remR v.2.1 x, v.2.2)) :: b := by rw [removed_of h hv hxv]; exact h2 _
  have p := remR_perm hxv (h.ring hv)
  have hl := p.length_eq
  have v0 : v.2.1.isEmpty = false := by
    cases hq : v.2.1 with
    | nil => rw [hq] at hxv; simp at hxv
    | cons _ _ => rfl
  have v1 : (remR v.2.1 x).isEmpty = decide (sg d x = x) := by
    rw [Bool.eq_iff_iff, List.isEmpty_iff, decide_eq_true_eq, sg_of h hv hxv, nextR_one (h.ring hv) hxv, ← List.length_eq_zero_iff]
    simp at hl; omega
  rw [e1]
  conv => rhs; rw [h1]
  unfold al
  rw [List.countP_append, List.countP_append, List.countP_cons, List.countP_cons]
  simp only [v0, v1]
  by_cases c : sg d x = x
  · simp [c]; omega
  · simp [c]
def ft (d : Diag) : Nat := (faces d).length + al d.1
/-- In one face. -/
def oneF (d : Diag) (x y : Dart) : Prop := ∃ c ∈ faces d, x ∈ c ∧ y ∈ c
theorem CutOf.al {d' : Diag} {x : ID} (h : CutOf d' x) : Vs.al (cutD d' x).1 = Vs.al d'.1 + (if Vs.ph d' (x, 1) = (x, 0) then 1 else 0) + (if Vs.ph d' (x, 0) = (x, 1) ∨ (Vs.ph d' (x, 0) = (x, 0) ∧ Vs.ph d' (x, 1) = (x, 1)) then 1 else 0) := by
  rw [h.v, al_removed h.p1.2 h.x1', al_removed h.wf.rw h.x0]
  have e0 : Vs.ph d' (x, 0) = Vs.sg d' (x, 1) := ph_of h.x0
  have e1 : Vs.ph d' (x, 1) = Vs.sg d' (x, 0) := ph_of h.x1
  rw [e0, e1, removed_sg h.wf.rw h.x0 h.x1']
  unfold skip
  congr 1
  by_cases c : Vs.sg d' (x, 1) = (x, 0)
  · rw [if_pos c]
    by_cases k : Vs.sg d' (x, 0) = (x, 1)
    · rw [if_pos k, if_pos (.inr ⟨c, k⟩)]
    · rw [if_neg k, if_neg]
      rintro (m | ⟨_, m⟩)
      · rw [c] at m; cases m
      · exact k m
  · rw [if_neg c]
    by_cases k : Vs.sg d' (x, 1) = (x, 1)
    · rw [if_pos k, if_pos (.inl k)]
    · rw [if_neg k, if_neg]
      rintro (m | ⟨m, _⟩)
      · exact k m
      · exact c m
theorem ne01 (x : ID) : ((x, 0) : Dart) ≠ (x, 1) := fun k => by cases k
theorem CutOf.same {d' : Diag} {x : ID} (h : CutOf d' x) (hf : oneF d' (x, 0) (x, 1)) : ft (cutD d' x) = ft d' + 1 ∧ (faces (cutD d' x)).length + 1 = (faces d').length + (if Vs.ph d' (x, 0) = (x, 1) then 0 else 1) + (if Vs.ph d' (x, 1) = (x, 0) then 0 else 1) := by
  obtain ⟨c, hc, h0, h1⟩ := hf
  have nd := h.p.nodup_iff.1 h.wf.rw.n
  have dec : Dec (Vs.ph d') ((x, 0) :: (x, 1) :: darts (cutD d' x).1) (faces d') := ⟨(faces_dec h.wf).c, (faces_dec h.wf).p.trans h.p⟩
  obtain ⟨cs, k1, k2⟩ := Dec.out_same (ne01 x) nd dec (fun z hz => h.ph hz) hc h0 h1
  have k3 := Dec.count (h.w.rw.n) (faces_dec h.w) k1
  have k4 := h.al
  have hcyc := (faces_dec h.wf).c c hc
  -- in one cycle none goes to itself
  have n0 : ¬ (Vs.ph d' (x, 0) = (x, 0)) := fun k => by
    obtain ⟨n, hn⟩ := hcyc.reach h0 h1
    have : ∀ n, it (Vs.ph d') n (x, 0) = (x, 0) := fun n => by
      induction n with
      | zero => rfl
      | succ n ih => show it (Vs.ph d') n (Vs.ph d' (x, 0)) = _; rw [k]; exact ih
    rw [this] at hn; cases hn
  refine ⟨?_, by rw [k3]; exact k2⟩
  unfold ft
  rw [k3, k4]
  by_cases c0 : Vs.ph d' (x, 0) = (x, 1)
  · rw [if_pos c0] at k2
    rw [if_pos (Or.inl c0)]
    by_cases c1 : Vs.ph d' (x, 1) = (x, 0)
    · rw [if_pos c1] at k2 ⊢; omega
    · rw [if_neg c1] at k2 ⊢; omega
  · rw [if_neg c0] at k2
    rw [if_neg (show ¬ (Vs.ph d' (x, 0) = (x, 1) ∨ (Vs.ph d' (x, 0) = (x, 0) ∧ Vs.ph d' (x, 1) = (x, 1))) from fun m => m.elim c0 fun m => n0 m.1)]
    by_cases c1 : Vs.ph d' (x, 1) = (x, 0)
    · rw [if_pos c1] at k2 ⊢; omega
    · rw [if_neg c1] at k2 ⊢; omega
end Go.Vs

set_option linter.unusedVariables false
set_option linter.unusedSimpArgs false
namespace Go.Vs
open Go.Proofs Go.Cy

def Adj (d : Diag) (a b : ID) : Prop := ∃ z ∈ darts d.1, atD d z = some a ∧ atD d (otherD z) = some b
inductive Conn (d : Diag) : ID → ID → Prop
  | refl (a : ID) : Conn d a a
  | tail {a b c : ID} : Conn d a b → Adj d b c → Conn d a c
theorem Conn.trans {d : Diag} {a b c : ID} (h : Conn d a b) (k : Conn d b c) : Conn d a c := by
  induction k with
  | refl => exact h
  | tail _ j ih => exact ih.tail j
theorem Adj.symm {d : Diag} (hw : Wf d) {a b : ID} (h : Adj d a b) : Adj d b a := by
  obtain ⟨z, hz, h1, h2⟩ := h
  exact ⟨otherD z, hw.other hz, h2, by rw [otherD_other (hw.side hz)]; exact h1⟩
theorem Adj.conn {d : Diag} {a b : ID} (h : Adj d a b) : Conn d a b := (Conn.refl a).tail h
theorem Conn.symm {d : Diag} (hw : Wf d) {a b : ID} (h : Conn d a b) : Conn d b a := by
  induction h with
  | refl => exact .refl _
  | tail _ j ih => exact (j.symm hw).conn.trans ih
/-- One of each part. -/
structure Reps (d : Diag) (R : List ID) : Prop where
  n : R.Nodup
  v : ∀ r ∈ R, ∃ v ∈ d.1, v.1 = r
  i : ∀ r ∈ R, ∀ s ∈ R, Conn d r s → r = s
  c : ∀ v ∈ d.1, ∃ r ∈ R, Conn d v.1 r
theorem reps_le {d : Diag} (hw : Wf d) : ∀ {R R' : List ID}, R.Nodup → (∀ r ∈ R, ∀ s ∈ R, Conn d r s → r = s) → (∀ r ∈ R, ∃ s ∈ R', Conn d r s) → R.length ≤ R'.length
  | [], _, _, _, _ => Nat.zero_le _
  | r :: R, R', hn, hi, hc => by
    obtain ⟨s, hs, hrs⟩ := hc r (List.mem_cons_self ..)
    have h1 := List.nodup_cons.1 hn
    have ih := reps_le hw (R := R) (R' := R'.erase s) h1.2 (fun a ha b hb => hi a (List.mem_cons_of_mem _ ha) b (List.mem_cons_of_mem _ hb)) (fun a ha => by
      obtain ⟨t, ht, hat⟩ := hc a (List.mem_cons_of_mem _ ha)
      refine ⟨t, (List.mem_erase_of_ne (fun k => ?_)).2 ht, hat⟩
      subst k
      have := hi a (List.mem_cons_of_mem _ ha) r (List.mem_cons_self ..) (hat.trans (hrs.symm hw))
      exact h1.1 (this ▸ ha))
    rw [List.length_erase_of_mem hs] at ih
    have := List.length_pos_of_mem hs
    simp; omega
theorem Reps.len {d : Diag} (hw : Wf d) {R R' : List ID} (h : Reps d R) (h' : Reps d R') : R.length = R'.length := by
  refine Nat.le_antisymm (reps_le hw h.n h.i fun r hr => ?_) (reps_le hw h'.n h'.i fun r hr => ?_)
  · obtain ⟨v, hv, rfl⟩ := h.v r hr; exact h'.c v hv
  · obtain ⟨v, hv, rfl⟩ := h'.v r hr; exact h.c v hv

/-! ### An edge taken away -/
theorem at_of {d : Diag} (hw : Wf d) {z : Dart} (hz : z ∈ darts d.1) : ∃ v ∈ d.1, z ∈ v.2.1 ∧ atD d z = some v.1 := by
  obtain ⟨v, hv, hzv⟩ := mem_darts.1 hz
  exact ⟨v, hv, hzv, atV_of hw.rw hv hzv⟩
theorem removed_at {d : Diag} (h : Rw d.1) {x z : Dart} (hx : x ∈ darts d.1) (hz : z ∈ darts (removed d x).1) : atD (removed d x) z = atD d z := by
  obtain ⟨p, q⟩ := removed_perm h hx
  obtain ⟨v, hv, hxv⟩ := mem_darts.1 hx
  obtain ⟨w, hw, hzw⟩ := mem_darts.1 hz
  have hr := removed_of h hv hxv
  have hw' : w ∈ d.1.map (reR v.1 (remR v.2.1 x)) := by rw [hr] at hw; exact hw
  obtain ⟨u, hu, hwu⟩ := List.mem_map.1 hw'
  have hid : w.1 = u.1 := by rw [← hwu]; exact reR_id _ _ _
  have hzu : z ∈ u.2.1 := by
    by_cases huv : u.1 = v.1
    · have huv : u = v := by
        have h1 := findV_of h.s hv
        have h2 := findV_of h.s hu
        rw [huv, h1] at h2
        exact (Option.some.inj h2).symm
      subst huv
      have hwr : w.2.1 = remR u.2.1 x := by rw [← hwu]; unfold reR; rw [if_pos rfl]
      rw [hwr] at hzw
      exact (remR_perm hxv (h.ring hu)).mem_iff.2 (List.mem_cons_of_mem _ hzw)
    · have hwr : w = u := by rw [← hwu]; unfold reR; rw [if_neg huv]
      rw [← hwr]; exact hzw
  show atV (removed d x).1 z = atV d.1 z
  rw [atV_of q hw hzw, atV_of h hu hzu, hid]
theorem CutOf.at {d' : Diag} {x : ID} (h : CutOf d' x) {z : Dart} (hz : z ∈ darts (cutD d' x).1) : atD (cutD d' x) z = atD d' z := by
  have e : atD (cutD d' x) z = atD (removed (removed d' (x, 0)) (x, 1)) z := by unfold atD; rw [h.v]
  rw [h.v] at hz
  have hz1 : z ∈ darts (removed d' (x, 0)).1 := h.p2.1.mem_iff.2 (List.mem_cons_of_mem _ hz)
  rw [e, removed_at h.p1.2 h.x1' hz, removed_at h.wf.rw h.x0 hz1]
theorem CutOf.sub {d' : Diag} {x : ID} (h : CutOf d' x) {z : Dart} (hz : z ∈ darts (cutD d' x).1) : z ∈ darts d'.1 := h.p.mem_iff.2 (List.mem_cons_of_mem _ (List.mem_cons_of_mem _ hz))
theorem CutOf.adj {d' : Diag} {x : ID} (h : CutOf d' x) {a b : ID} (k : Adj (cutD d' x) a b) : Adj d' a b := by
  obtain ⟨z, hz, h1, h2⟩ := k
  exact ⟨z, h.sub hz, by rw [← h.at hz]; exact h1, by rw [← h.at (h.w.other hz)]; exact h2⟩
theorem CutOf.conn {d' : Diag} {x : ID} (h : CutOf d' x) {a b : ID} (k : Conn (cutD d' x) a b) : Conn d' a b := by
  induction k with
  | refl => exact .refl _
  | tail _ j ih => exact ih.tail (h.adj j)
theorem CutOf.adj' {d' : Diag} {x u w : ID} (h : CutOf d' x) (hu : atD d' (x, 0) = some u) (hw : atD d' (x, 1) = some w) {a b : ID} (k : Adj d' a b) : Adj (cutD d' x) a b ∨ (a = u ∧ b = w) ∨ (a = w ∧ b = u) := by
  obtain ⟨z, hz, h1, h2⟩ := k
  rcases List.mem_cons.1 (h.p.mem_iff.1 hz) with rfl | hz2
  · rw [other0] at h2
    rw [hu] at h1; rw [hw] at h2
    cases h1; cases h2
    exact .inr (.inl ⟨rfl, rfl⟩)
  rcases List.mem_cons.1 hz2 with rfl | hz3
  · rw [other1] at h2
    rw [hw] at h1; rw [hu] at h2
    cases h1; cases h2
    exact .inr (.inr ⟨rfl, rfl⟩)
  · exact .inl ⟨z, hz3, by rw [h.at hz3]; exact h1, by rw [h.at (h.w.other hz3)]; exact h2⟩
theorem CutOf.conn' {d' : Diag} {x u w : ID} (h : CutOf d' x) (hu : atD d' (x, 0) = some u) (hw : atD d' (x, 1) = some w) {a b : ID} (k : Conn d' a b) :
    Conn (cutD d' x) a b ∨ (Conn (cutD d' x) a u ∧ Conn (cutD d' x) w b) ∨ (Conn (cutD d' x) a w ∧ Conn (cutD d' x) u b) := by
  induction k with
  | refl => exact .inl (.refl _)
  | tail _ j ih =>
    rcases h.adj' hu hw j with j | ⟨rfl, rfl⟩ | ⟨rfl, rfl⟩
    · rcases ih with k | ⟨k, m⟩ | ⟨k, m⟩
      · exact .inl (k.tail j)
      · exact .inr (.inl ⟨k, m.tail j⟩)
      · exact .inr (.inr ⟨k, m.tail j⟩)
    · rcases ih with k | ⟨k, m⟩ | ⟨k, m⟩
      · exact .inr (.inl ⟨k, .refl _⟩)
      · exact .inr (.inl ⟨k, .refl _⟩)
      · exact .inl k
    · rcases ih with k | ⟨k, m⟩ | ⟨k, m⟩
      · exact .inr (.inr ⟨k, .refl _⟩)
      · exact .inl k
      · exact .inr (.inr ⟨k, .refl _⟩)
theorem CutOf.ids {d' : Diag} {x : ID} (h : CutOf d' x) : (cutD d' x).1.map (·.1) = d'.1.map (·.1) := by
  rw [h.v]
  unfold removed Vs.ringed
  simp only [List.map_map]
  refine List.map_congr_left fun v hv => ?_
  simp only [Function.comp, reR_id]
theorem CutOf.vert {d' : Diag} {x : ID} (h : CutOf d' x) {r : ID} : (∃ v ∈ (cutD d' x).1, v.1 = r) ↔ ∃ v ∈ d'.1, v.1 = r := by
  have e : ∀ l : List Vert, (∃ v ∈ l, v.1 = r) ↔ r ∈ l.map (·.1) := fun l => by rw [List.mem_map]
  rw [e, e, h.ids]
theorem CutOf.reps {d' : Diag} {x u w : ID} (h : CutOf d' x) (hu : atD d' (x, 0) = some u) (hw : atD d' (x, 1) = some w) (k : Conn (cutD d' x) u w) {R : List ID} (hr : Reps d' R) : Reps (cutD d' x) R := by
  have key : ∀ {a b : ID}, Conn d' a b → Conn (cutD d' x) a b := fun {a b} m => by
    rcases h.conn' hu hw m with m | ⟨m, q⟩ | ⟨m, q⟩
    · exact m
    · exact (m.trans k).trans q
    · exact (m.trans (k.symm h.w)).trans q
  refine ⟨hr.n, fun r hrr => h.vert.2 (hr.v r hrr), fun r hrr s hs m => hr.i r hrr s hs (h.conn m), fun v hv => ?_⟩
  obtain ⟨v', hv', he⟩ := h.vert.1 ⟨v, hv, rfl⟩
  obtain ⟨r, h1, h2⟩ := hr.c v' hv'
  exact ⟨r, h1, by rw [← he]; exact key h2⟩
theorem CutOf.ends_of {d' : Diag} {x : ID} (h : CutOf d' x) : ∃ u w, atD d' (x, 0) = some u ∧ atD d' (x, 1) = some w ∧ (∃ v ∈ d'.1, v.1 = u) ∧ ∃ v ∈ d'.1, v.1 = w := by
  obtain ⟨v, hv, _, h1⟩ := at_of h.wf h.x0
  obtain ⟨v2, hv2, _, h2⟩ := at_of h.wf h.x1
  exact ⟨v.1, v2.1, h1, h2, ⟨v, hv, rfl⟩, ⟨v2, hv2, rfl⟩⟩
theorem CutOf.reps2 {d' : Diag} {x u w : ID} (h : CutOf d' x) (hu : atD d' (x, 0) = some u) (hw : atD d' (x, 1) = some w) (k : ¬ Conn (cutD d' x) u w) {R : List ID} (hr : Reps d' R) : ∃ R2, Reps (cutD d' x) R2 ∧ R2.length = R.length + 1 := by
  have uv : ∃ v ∈ d'.1, v.1 = u := by
    obtain ⟨v, hv, _, h1⟩ := at_of h.wf h.x0
    rw [hu] at h1; cases h1; exact ⟨v, hv, rfl⟩
  have wv : ∃ v ∈ d'.1, v.1 = w := by
    obtain ⟨v, hv, _, h1⟩ := at_of h.wf h.x1
    rw [hw] at h1; cases h1; exact ⟨v, hv, rfl⟩
  have uw : Conn d' u w := Adj.conn ⟨(x, 0), h.x0, hu, by rw [other0]; exact hw⟩
  obtain ⟨v0, hv0, hvu⟩ := uv
  obtain ⟨r, hrr, hur⟩ := hr.c v0 hv0
  rw [hvu] at hur
  have sep : ∀ s ∈ R.erase r, s ∈ R ∧ ¬ Conn d' s u ∧ ¬ Conn d' s w := fun s hs => by
    have h1 := List.mem_of_mem_erase hs
    have h2 : s ≠ r := fun e => by
      subst e
      exact absurd hs (List.Nodup.not_mem_erase hr.n)
    exact ⟨h1, fun m => h2 (hr.i s h1 r hrr (m.trans hur)), fun m => h2 (hr.i s h1 r hrr ((m.trans (uw.symm h.wf)).trans hur))⟩
  refine ⟨u :: w :: R.erase r, ⟨?_, ?_, ?_, ?_⟩, ?_⟩
  · refine List.nodup_cons.2 ⟨fun m => ?_, List.nodup_cons.2 ⟨fun m => (sep w m).2.2 (.refl _), hr.n.erase r⟩⟩
    rcases List.mem_cons.1 m with m | m
    · exact k (m ▸ .refl _)
    · exact (sep u m).2.1 (.refl _)
  · intro s hs
    rcases List.mem_cons.1 hs with rfl | hs
    · exact h.vert.2 ⟨v0, hv0, hvu⟩
    rcases List.mem_cons.1 hs with rfl | hs
    · exact h.vert.2 wv
    · exact h.vert.2 (hr.v s (sep s hs).1)
  · intro a ha b hb m
    rcases List.mem_cons.1 ha with ea | ha
    · rcases List.mem_cons.1 hb with eb | hb
      · rw [ea, eb]
      rcases List.mem_cons.1 hb with eb | hb
      · exact absurd (ea ▸ eb ▸ m) k
      · exact absurd ((h.conn (ea ▸ m)).symm h.wf) (sep b hb).2.1
    rcases List.mem_cons.1 ha with ea | ha
    · rcases List.mem_cons.1 hb with eb | hb
      · exact absurd ((ea ▸ eb ▸ m).symm h.w) k
      rcases List.mem_cons.1 hb with eb | hb
      · rw [ea, eb]
      · exact absurd ((h.conn (ea ▸ m)).symm h.wf) (sep b hb).2.2
    · rcases List.mem_cons.1 hb with eb | hb
      · exact absurd (eb ▸ h.conn m) (sep a ha).2.1
      rcases List.mem_cons.1 hb with eb | hb
      · exact absurd (eb ▸ h.conn m) (sep a ha).2.2
      · exact hr.i a (sep a ha).1 b (sep b hb).1 (h.conn m)
  · intro v hv
    obtain ⟨v', hv', he⟩ := h.vert.1 ⟨v, hv, rfl⟩
    obtain ⟨s, h1, h2⟩ := hr.c v' hv'
    rw [he] at h2
    by_cases hsr : s = r
    · subst hsr
      rcases h.conn' hu hw (h2.trans (hur.symm h.wf)) with m | ⟨m, _⟩ | ⟨m, _⟩
      · exact ⟨u, by simp, m⟩
      · exact ⟨u, by simp, m⟩
      · exact ⟨w, by simp, m⟩
    · have hse : s ∈ R.erase r := (List.mem_erase_of_ne hsr).2 h1
      rcases h.conn' hu hw h2 with m | ⟨_, q⟩ | ⟨_, q⟩
      · exact ⟨s, by simp [hse], m⟩
      · exact absurd ((h.conn q).symm h.wf) (sep s hse).2.2
      · exact absurd ((h.conn q).symm h.wf) (sep s hse).2.1
  · have := List.length_pos_of_mem hrr
    simp only [List.length_cons, List.length_erase_of_mem hrr]; omega
/-! ### Euler's formula -/
theorem SortV.ids {l : List Vert} (h : SortV l) : (l.map (·.1)).Nodup := by
  unfold List.Nodup
  rw [List.pairwise_map]
  exact h.imp fun {a b} k e => by rw [e, ltI_irrefl] at k; cases k
end Go.Vs

set_option linter.unusedVariables false
set_option linter.unusedSimpArgs false
namespace Go.Vs
open Go.Proofs Go.Cy

/-- The name at a place. -/
def idAt (d : Diag) (i : Nat) : ID := ((d.1[i]?).getD zV).1
theorem idAt_of {d : Diag} {i : Nat} {v : Vert} (h : d.1[i]? = some v) : idAt d i = v.1 := by unfold idAt; rw [h]; rfl
theorem idAt_inj {d : Diag} (hs : SortV d.1) {i j : Nat} (hi : i < d.1.length) (hj : j < d.1.length) (h : idAt d i = idAt d j) : i = j := by
  have h1 := List.getElem?_eq_getElem hi
  have h2 := List.getElem?_eq_getElem hj
  rw [idAt_of h1, idAt_of h2] at h
  rw [cntV_only hs h1 rfl, cntV_only hs h2 rfl, h]
theorem plc_at {x : ID} : ∀ {l : List Vert} {i : Nat} {v : Vert} (k : Int), l[i]? = some v → v.1 = x → (∀ j u, j < i → l[j]? = some u → u.1 ≠ x) → plc x l k = k + i
  | w :: r, 0, v, k, h, hv, _ => by
    simp at h; subst h
    rw [plc, if_pos hv]; simp
  | w :: r, i + 1, v, k, h, hv, hn => by
    have h0 := hn 0 w (by omega) (by simp)
    rw [plc, if_neg h0, plc_at (i := i) (v := v) (k + 1) (by simpa using h) hv (fun j u hj hu => hn (j + 1) u (by omega) (by simpa using hu))]
    omega
theorem plc_id {d : Diag} (hs : SortV d.1) {i : Nat} (hi : i < d.1.length) : plc (idAt d i) d.1 0 = (i : Int) := by
  have h := List.getElem?_eq_getElem hi
  have := plc_at (x := idAt d i) (l := d.1) (i := i) (v := d.1[i]) 0 h (idAt_of h).symm (fun j u hj hu he => by
    have h1 := idAt_inj hs (show j < d.1.length by omega) hi ((idAt_of hu).trans he)
    omega)
  omega
theorem at_idx {d : Diag} (hw : Wf d) {z : Dart} (hz : z ∈ darts d.1) : ∃ i, i < d.1.length ∧ atD d z = some (idAt d i) := by
  obtain ⟨v, hv, _, h⟩ := at_of hw hz
  obtain ⟨i, hi, he⟩ := List.getElem_of_mem hv
  refine ⟨i, hi, ?_⟩
  rw [h, idAt_of (List.getElem?_eq_getElem hi), he]
/-- The labels are of the part, and not above one's own place. -/
structure LabI (d : Diag) (L : List Int) : Prop where
  n : L.length = d.1.length
  i : ∀ i, i < d.1.length → ∃ j : Nat, j ≤ i ∧ L.getD i 0 = (j : Int) ∧ Conn d (idAt d i) (idAt d j)
def Right (d : Diag) (L : List Int) (i : Nat) : Prop := ∀ j, j < d.1.length → Conn d (idAt d i) (idAt d j) → L.getD i 0 ≤ (j : Int)
/-- The least places. -/
structure CanL (d : Diag) (L : List Int) : Prop where
  l : LabI d L
  r : ∀ i, i < d.1.length → Right d L i
theorem getD_set {L : List Int} {a i : Nat} (x : Int) : (L.set a x).getD i 0 = if a = i ∧ a < L.length then x else L.getD i 0 := by
  simp only [List.getD]
  rw [List.getElem?_set]
  by_cases h : a = i
  · subst h
    by_cases k : a < L.length
    · simp [k]
    · simp [k]
  · simp [h]
/-- Both ends of an edge have the lesser label. -/
def lowI (a b : Nat) (L : List Int) : List Int := (L.set a (min (L.getD a 0) (L.getD b 0))).set b (min (L.getD a 0) (L.getD b 0))
theorem lowI_get {L : List Int} {a b : Nat} (ha : a < L.length) (hb : b < L.length) (i : Nat) : (lowI a b L).getD i 0 = if i = a ∨ i = b then min (L.getD a 0) (L.getD b 0) else L.getD i 0 := by
  unfold lowI
  rw [getD_set, getD_set, List.length_set]
  by_cases h1 : b = i
  · rw [if_pos ⟨h1, hb⟩, if_pos (.inr h1.symm)]
  · rw [if_neg (fun k => h1 k.1)]
    by_cases h2 : a = i
    · rw [if_pos ⟨h2, ha⟩, if_pos (.inl h2.symm)]
    · rw [if_neg (fun k => h2 k.1), if_neg (fun k => k.elim (fun m => h2 m.symm) (fun m => h1 m.symm))]
theorem lowI_step {d : Diag} (hw : Wf d) {L : List Int} (h : LabI d L) {a b : Nat} (ha : a < d.1.length) (hb : b < d.1.length) (hab : Conn d (idAt d a) (idAt d b)) : LabI d (lowI a b L) ∧ (∀ i, i < d.1.length → Right d L i → Right d (lowI a b L) i) ∧ (Right d L a → Right d (lowI a b L) b) ∧ (Right d L b → Right d (lowI a b L) a) := by
  have hla : a < L.length := by rw [h.n]; exact ha
  have hlb : b < L.length := by rw [h.n]; exact hb
  have gl := lowI_get hla hlb
  obtain ⟨ja, a1, a2, a3⟩ := h.i a ha
  obtain ⟨jb, b1, b2, b3⟩ := h.i b hb
  have hba := hab.symm hw
  refine ⟨⟨by unfold lowI; simp [h.n], fun i hi => ?_⟩, fun i hi hr j hj hc => ?_, fun hr j hj hc => ?_, fun hr j hj hc => ?_⟩
  · rw [gl]
    by_cases hiab : i = a ∨ i = b
    · rw [if_pos hiab]
      have conn : Conn d (idAt d i) (idAt d a) ∧ Conn d (idAt d i) (idAt d b) := by
        rcases hiab with rfl | rfl
        · exact ⟨.refl _, hab⟩
        · exact ⟨hba, .refl _⟩
      by_cases hle : L.getD a 0 ≤ L.getD b 0
      · refine ⟨ja, ?_, by rw [← a2]; omega, conn.1.trans a3⟩
        rcases hiab with rfl | rfl
        · exact a1
        · rw [a2, b2] at hle; omega
      · refine ⟨jb, ?_, by rw [← b2]; omega, conn.2.trans b3⟩
        rcases hiab with rfl | rfl
        · rw [a2, b2] at hle; omega
        · exact b1
    · rw [if_neg hiab]; exact h.i i hi
  · rw [gl]
    split
    · rename_i hiab
      have := hr j hj hc
      rcases hiab with rfl | rfl <;> omega
    · exact hr j hj hc
  · rw [gl, if_pos (.inr rfl)]
    have := hr j hj (hab.trans hc)
    omega
  · rw [gl, if_pos (.inl rfl)]
    have := hr j hj (hba.trans hc)
    omega
theorem lowR_I {d : Diag} (hw : Wf d) {e : EdgeT} (he : e ∈ d.2) (L : List Int) : ∃ a b, a < d.1.length ∧ b < d.1.length ∧ atD d (e.1, 0) = some (idAt d a) ∧ atD d (e.1, 1) = some (idAt d b) ∧ lowR d e L = lowI a b L := by
  have h0 : (e.1, 0) ∈ darts d.1 := hw.pd.mem_iff.2 (mem_ends.2 ⟨e, he, rfl, .inl rfl⟩)
  have h1 : (e.1, 1) ∈ darts d.1 := hw.pd.mem_iff.2 (mem_ends.2 ⟨e, he, rfl, .inr rfl⟩)
  obtain ⟨a, ha, ea⟩ := at_idx hw h0
  obtain ⟨b, hb, eb⟩ := at_idx hw h1
  refine ⟨a, b, ha, hb, ea, eb, ?_⟩
  unfold lowR lowI
  rw [ea, eb]
  simp only [Option.getD_some, plc_id hw.sv ha, plc_id hw.sv hb, Int.toNat_natCast]
  rw [if_pos ⟨by omega, by omega⟩]
theorem lowRs_step {d : Diag} (hw : Wf d) : ∀ (l : List EdgeT) {L : List Int}, (∀ e ∈ l, e ∈ d.2) → LabI d L → LabI d (lowRs d l L) ∧ (∀ i, i < d.1.length → Right d L i → Right d (lowRs d l L) i) ∧
    (∀ e ∈ l, ∀ a b, a < d.1.length → b < d.1.length → ((atD d (e.1, 0) = some (idAt d a) ∧ atD d (e.1, 1) = some (idAt d b)) ∨ (atD d (e.1, 0) = some (idAt d b) ∧ atD d (e.1, 1) = some (idAt d a))) → Right d L a → Right d (lowRs d l L) b)
  | [], L, _, h => ⟨h, fun i hi hr => hr, fun e he => by simp at he⟩
  | e :: r, L, hl, h => by
    have he := hl e (List.mem_cons_self ..)
    obtain ⟨a, b, ha, hb, ea, eb, el⟩ := lowR_I hw he L
    have h0 : (e.1, 0) ∈ darts d.1 := hw.pd.mem_iff.2 (mem_ends.2 ⟨e, he, rfl, .inl rfl⟩)
    have hab : Conn d (idAt d a) (idAt d b) := Adj.conn ⟨(e.1, 0), h0, ea, by rw [other0]; exact eb⟩
    obtain ⟨s1, s2, s3, s4⟩ := lowI_step hw h ha hb hab
    obtain ⟨t1, t2, t3⟩ := lowRs_step hw r (L := lowI a b L) (fun e he => hl e (List.mem_cons_of_mem _ he)) s1
    show LabI d (lowRs d r (lowR d e L)) ∧ _ ∧ _
    rw [el]
    refine ⟨t1, fun i hi hr => ?_, fun f hf p q hp hq hpq hr => ?_⟩
    · show Right d (lowRs d r (lowR d e L)) i
      rw [el]; exact t2 i hi (s2 i hi hr)
    · show Right d (lowRs d r (lowR d e L)) q
      rw [el]
      rcases List.mem_cons.1 hf with rfl | hf
      · refine t2 q hq ?_
        rcases hpq with ⟨k1, k2⟩ | ⟨k1, k2⟩
        · rw [ea] at k1; rw [eb] at k2
          have := idAt_inj hw.sv ha hp (Option.some.inj k1); subst this
          have := idAt_inj hw.sv hb hq (Option.some.inj k2); subst this
          exact s3 hr
        · rw [ea] at k1; rw [eb] at k2
          have := idAt_inj hw.sv ha hq (Option.some.inj k1); subst this
          have := idAt_inj hw.sv hb hp (Option.some.inj k2); subst this
          exact s4 hr
      · exact t3 f hf p q hp hq hpq (s2 p hp hr)
theorem least_conn {d : Diag} (i : Nat) (hi : i < d.1.length) : ∃ m, m < d.1.length ∧ Conn d (idAt d i) (idAt d m) ∧ ∀ j, j < d.1.length → Conn d (idAt d i) (idAt d j) → m ≤ j := by
  induction i using Nat.strongRecOn with
  | ind i ih =>
    by_cases h : ∃ j, j < i ∧ Conn d (idAt d i) (idAt d j) ∧ Conn d (idAt d j) (idAt d i)
    · obtain ⟨j, hj, hc, hc2⟩ := h
      obtain ⟨m, h1, h2, h3⟩ := ih j hj (by omega)
      exact ⟨m, h1, hc.trans h2, fun k hk hck => h3 k hk (hc2.trans hck)⟩
    · by_cases hs : ∃ j, j < i ∧ Conn d (idAt d i) (idAt d j)
      · obtain ⟨j, hj, hc⟩ := hs
        -- one way only: take the least of those below
        have key : ∀ n, n ≤ i → (∃ m, m < n ∧ Conn d (idAt d i) (idAt d m)) → ∃ m, m < d.1.length ∧ Conn d (idAt d i) (idAt d m) ∧ ∀ j, j < d.1.length → Conn d (idAt d i) (idAt d j) → m ≤ j := by
          intro n
          induction n with
          | zero => rintro _ ⟨m, hm, _⟩; omega
          | succ n ihn =>
            rintro hn ⟨m, hm, hcm⟩
            by_cases hb : ∃ m, m < n ∧ Conn d (idAt d i) (idAt d m)
            · exact ihn (by omega) hb
            · have : m = n := Classical.byContradiction fun k => hb ⟨m, by omega, hcm⟩
              subst this
              refine ⟨m, by omega, hcm, fun j hj hcj => Classical.byContradiction fun k => hb ⟨j, by omega, hcj⟩⟩
        exact key i (Nat.le_refl _) ⟨j, hj, hc⟩
      · refine ⟨i, hi, .refl _, fun j hj hc => Classical.byContradiction fun k => hs ⟨j, by omega, hc⟩⟩
theorem conn_turn {d : Diag} (P : ID → Prop) {x y : ID} (h : Conn d x y) (hx : P x) (hy : ¬ P y) : ∃ a b, Adj d a b ∧ P a ∧ ¬ P b := by
  induction h with
  | refl => exact absurd hx hy
  | @tail b c k j ih =>
    by_cases hb : P b
    · exact ⟨_, _, j, hb, hy⟩
    · exact ih hb
open Classical in
theorem count_lt {P Q : Nat → Prop} : ∀ {l : List Nat}, (∀ i ∈ l, P i → Q i) → (∃ i ∈ l, Q i ∧ ¬ P i) → l.countP (fun i => decide (P i)) < l.countP (fun i => decide (Q i))
  | [], _, h => by obtain ⟨i, hi, _⟩ := h; simp at hi
  | x :: r, h, ⟨i, hi, hq, hp⟩ => by
    have mono : r.countP (fun i => decide (P i)) ≤ r.countP (fun i => decide (Q i)) := by
      have hr : ∀ i ∈ r, P i → Q i := fun i hi => h i (List.mem_cons_of_mem _ hi)
      clear h hi
      induction r with
      | nil => simp
      | cons y r ih =>
        rw [List.countP_cons, List.countP_cons]
        have := ih (fun i hi => hr i (List.mem_cons_of_mem _ hi))
        have h2 := hr y (List.mem_cons_self ..)
        by_cases hy : P y
        · simp [hy, h2 hy]; exact this
        · simp [hy]; omega
    rw [List.countP_cons, List.countP_cons]
    rcases List.mem_cons.1 hi with rfl | hi
    · simp [hq, hp]; omega
    · have := count_lt (l := r) (fun i hi => h i (List.mem_cons_of_mem _ hi)) ⟨i, hi, hq, hp⟩
      have hx := h x (List.mem_cons_self ..)
      by_cases hpx : P x
      · simp [hpx, hx hpx]; exact this
      · simp [hpx]; omega
theorem round_more {d : Diag} (hw : Wf d) {L : List Int} (h : LabI d L) (hn : ∃ i, i < d.1.length ∧ ¬ Right d L i) : ∃ i, i < d.1.length ∧ Right d (lowRs d d.2 L) i ∧ ¬ Right d L i := by
  obtain ⟨i, hi, hr⟩ := hn
  obtain ⟨m, m1, m2, m3⟩ := least_conn i hi
  have hm : Right d L m := fun j hj hc => by
    obtain ⟨q, q1, q2, _⟩ := h.i m m1
    have := m3 j hj (m2.trans hc)
    rw [q2]; omega
  let P : ID → Prop := fun x => ∃ k, k < d.1.length ∧ idAt d k = x ∧ Right d L k
  have hx : P (idAt d m) := ⟨m, m1, rfl, hm⟩
  have hy : ¬ P (idAt d i) := fun ⟨k, k1, k2, k3⟩ => by
    have := idAt_inj hw.sv k1 hi k2
    exact hr (this ▸ k3)
  obtain ⟨a, b, ⟨z, hz, za, zb⟩, ⟨p, p1, p2, p3⟩, hb⟩ := conn_turn P (m2.symm hw) hx hy
  obtain ⟨q, q1, q2⟩ := at_idx hw (hw.other hz)
  rw [zb] at q2
  have hbq : b = idAt d q := Option.some.inj q2
  obtain ⟨e, he, e1, e2⟩ := mem_ends.1 (hw.pd.mem_iff.1 hz)
  refine ⟨q, q1, ?_, fun k => hb ⟨q, q1, hbq.symm, k⟩⟩
  refine (lowRs_step hw d.2 (fun _ h => h) h).2.2 e he p q p1 q1 ?_ p3
  rw [p2, ← hbq]
  obtain ⟨z1, z2⟩ := z
  simp only at e1 e2
  subst e1
  rcases e2 with rfl | rfl
  · exact .inl ⟨za, zb⟩
  · exact .inr ⟨zb, za⟩
open Classical in
theorem lowN_right {d : Diag} (hw : Wf d) : ∀ (n : Nat) {L : List Int}, LabI d L → d.1.length ≤ n + (List.range d.1.length).countP (fun i => decide (Right d L i)) → CanL d (lowN d n L)
  | 0, L, h, hc => by
    refine ⟨h, fun i hi => ?_⟩
    have h1 : (List.range d.1.length).countP (fun i => decide (Right d L i)) = (List.range d.1.length).length := by
      have := List.countP_le_length (p := fun i => decide (Right d L i)) (l := List.range d.1.length)
      simp at this ⊢; omega
    have := List.countP_eq_length.1 h1 i (List.mem_range.2 hi)
    exact of_decide_eq_true this
  | n + 1, L, h, hc => by
    obtain ⟨s1, s2, _⟩ := lowRs_step hw d.2 (fun _ h => h) h
    show CanL d (lowN d n (lowRs d d.2 L))
    refine lowN_right hw n s1 ?_
    by_cases hn : ∃ i, i < d.1.length ∧ ¬ Right d L i
    · obtain ⟨i, hi, h1, h2⟩ := round_more hw h hn
      have := count_lt (P := Right d L) (Q := Right d (lowRs d d.2 L)) (l := List.range d.1.length) (fun i hi => s2 i (List.mem_range.1 hi)) ⟨i, List.mem_range.2 hi, h1, h2⟩
      omega
    · have : (List.range d.1.length).countP (fun i => decide (Right d (lowRs d d.2 L) i)) = (List.range d.1.length).length := by
        rw [List.countP_eq_length]
        intro i hi
        have hi := List.mem_range.1 hi
        exact decide_eq_true (s2 i hi (Classical.byContradiction fun k => hn ⟨i, hi, k⟩))
      rw [this]; simp
theorem upTo_I (d : Diag) : LabI d (upTo d.1.length) := by
  refine ⟨by unfold upTo; simp, fun i hi => ⟨i, Nat.le_refl _, ?_, .refl _⟩⟩
  unfold upTo
  simp [List.getD, hi]
theorem labels_can {d : Diag} (hw : Wf d) : CanL d (labels d) := lowN_right hw d.1.length (upTo_I d) (by omega)
/-- The parts' first vertices. -/
def firsts (d : Diag) (L : List Int) : List ID := ((List.range d.1.length).filter fun i => decide (L.getD i 0 = (i : Int))).map (idAt d)
theorem firsts_reps {d : Diag} (hw : Wf d) {L : List Int} (h : CanL d L) : Reps d (firsts d L) := by
  have mem : ∀ {r : ID}, r ∈ firsts d L ↔ ∃ i, i < d.1.length ∧ L.getD i 0 = (i : Int) ∧ idAt d i = r := fun {r} => by
    unfold firsts
    rw [List.mem_map]
    constructor
    · rintro ⟨i, hi, rfl⟩
      rw [List.mem_filter, List.mem_range] at hi
      exact ⟨i, hi.1, by simpa using hi.2, rfl⟩
    · rintro ⟨i, h1, h2, rfl⟩
      exact ⟨i, by rw [List.mem_filter, List.mem_range]; exact ⟨h1, by simpa using h2⟩, rfl⟩
  refine ⟨?_, fun r hr => ?_, fun r hr s hs hc => ?_, fun v hv => ?_⟩
  · unfold firsts List.Nodup
    rw [List.pairwise_map]
    have hp : ((List.range d.1.length).filter fun i => decide (L.getD i 0 = (i : Int))).Nodup := List.nodup_range.filter _
    refine List.Pairwise.imp_of_mem (fun {a b} ha hb hne e => hne ?_) hp
    exact idAt_inj hw.sv (List.mem_range.1 (List.mem_filter.1 ha).1) (List.mem_range.1 (List.mem_filter.1 hb).1) e
  · obtain ⟨i, hi, _, rfl⟩ := mem.1 hr
    exact ⟨d.1[i], List.getElem_mem hi, (idAt_of (List.getElem?_eq_getElem hi)).symm⟩
  · obtain ⟨i, hi, h1, rfl⟩ := mem.1 hr
    obtain ⟨j, hj, h2, rfl⟩ := mem.1 hs
    have k1 := h.r i hi j hj hc
    have k2 := h.r j hj i hi (hc.symm hw)
    have : i = j := by omega
    rw [this]
  · obtain ⟨i, hi, he⟩ := List.getElem_of_mem hv
    have hid : idAt d i = v.1 := by rw [idAt_of (List.getElem?_eq_getElem hi), he]
    obtain ⟨j, j1, j2, j3⟩ := h.l.i i hi
    refine ⟨idAt d j, mem.2 ⟨j, by omega, ?_, rfl⟩, by rw [← hid]; exact j3⟩
    obtain ⟨k, k1, k2, k3⟩ := h.l.i j (by omega)
    have h1 := h.r i hi k (by omega) (j3.trans k3)
    rw [j2] at h1
    rw [k2]
    have : j = k := by omega
    rw [this]
theorem countR_eq : ∀ (l : List Int) (i : Nat) (n : Nat), n + l.length ≤ 1000000 → countR l (i : Int) (n : Int) = ((n + ((List.range l.length).filter fun j => decide (l.getD j 0 = ((i + j : Nat) : Int))).length : Nat) : Int)
  | [], i, n, _ => by simp [countR]
  | x :: r, i, n, h => by
    simp at h
    have e : ((List.range (x :: r).length).filter fun j => decide ((x :: r).getD j 0 = ((i + j : Nat) : Int))).length = (if x = (i : Int) then 1 else 0) + ((List.range r.length).filter fun j => decide (r.getD j 0 = ((i + 1 + j : Nat) : Int))).length := by
      rw [List.length_cons, List.range_succ_eq_map, List.filter_cons]
      have e2 : ((List.range r.length).map Nat.succ).filter (fun j => decide ((x :: r).getD j 0 = ((i + j : Nat) : Int))) = ((List.range r.length).filter fun j => decide (r.getD j 0 = ((i + 1 + j : Nat) : Int))).map Nat.succ := by
        rw [List.filter_map]
        congr 1
        apply List.filter_congr
        intro j _
        simp only [Function.comp, Nat.succ_eq_add_one, List.getD_cons_succ]
        rw [show i + (j + 1) = i + 1 + j by omega]
      rw [e2]
      simp only [List.getD_cons_zero, Nat.add_zero]
      by_cases hx : x = (i : Int)
      · simp [hx]; omega
      · simp [hx]
    rw [e]
    unfold countR
    have hi : ((i : Int) + 1) = ((i + 1 : Nat) : Int) := by omega
    rw [hi]
    by_cases hx : x = (i : Int)
    · rw [if_pos hx, if_pos hx]
      have hw : IntKind.wrap .i64 ((n : Int) + 1) = ((n + 1 : Nat) : Int) := by rw [wrap_small (by omega) (by omega)]; omega
      rw [hw, countR_eq r (i + 1) (n + 1) (by omega)]
      congr 1; omega
    · rw [if_neg hx, if_neg hx, countR_eq r (i + 1) n (by omega)]
      congr 1; omega
theorem countL_eq {d : Diag} (hw : Wf d) : countL d = ((firsts d (labels d)).length : Int) := by
  have h := labels_can hw
  have hn := hw.nv
  unfold countL
  have := countR_eq (labels d) 0 0 (by rw [h.l.n]; omega)
  simp only [Nat.zero_add] at this
  have e : countR (labels d) 0 0 = countR (labels d) ((0 : Nat) : Int) ((0 : Nat) : Int) := rfl
  rw [e, this]
  unfold firsts
  rw [List.length_map, h.l.n]
end Go.Vs
