/- What the document's reference computes, written plainly, the second part. -/
import Derived.Test.YtpldhjjpeldkaaaGreatRefA

set_option linter.unusedVariables false
set_option linter.unusedSimpArgs false
namespace Go.Vs
open Go.Proofs
variable {G : (f : FuncId) → (g : Sig) → Option (g.A → Option g.B)}

/-- The place of a vertex; -1: there is none. -/
def plc (x : ID) : List Vert → Int → Int
  | [], _ => -1
  | v :: r, i => if v.1 = x then i else plc x r (i + 1)
theorem plc_lt (x : ID) : ∀ (l : List Vert) (i : Int), 0 ≤ i → plc x l i = -1 ∨ (i ≤ plc x l i ∧ plc x l i < i + l.length)
  | [], i, _ => .inl rfl
  | v :: r, i, h => by
    unfold plc
    split
    · right; simp; omega
    · rcases plc_lt x r (i + 1) (by omega) with h | h
      · exact .inl h
      · right; simp; omega
theorem fx55 (hG : G 55 sg55 = none) (d : Diag) (x : ID) (hs : Sm d) : FX G 55 sg55 ((d, x, ()), ()) = some ((plc x d.1 0, ()), ()) := by
  have hv := hs.v
  refine fx_of (fn := Tryz.f55) hG (by kernel_rfl) (by kernel_rfl) ((nf55 _ _ _).trans ?_)
  have loop : ∀ (n i : Nat), i + n = d.1.length → LX G 55 sg55 Tryz.f55 sh55_0 (seg Tryz.prog 55 0) (((i : Int), ()), (((d, ()), ((x, ()), ())), ())) = some ((plc x (d.1.drop i) i, ()), ()) := by
    intro n
    induction n with
    | zero =>
      intro i hi
      refine lx_of (j := 0) (by kernel_rfl) ((nl55_0 _ _ _).trans ?_)
      have h1 : ¬ ((i : Int) < (d.1.length : Int)) := by omega
      have h2 : d.1.drop i = [] := List.drop_eq_nil_of_le (by omega)
      rw [h2]
      simp only [h1, decide_false]; rfl
    | succ n ih =>
      intro i hi
      refine lx_of (j := 0) (by kernel_rfl) ((nl55_0 _ _ _).trans ?_)
      have hlt : i < d.1.length := by omega
      have h2 : d.1.drop i = d.1[i] :: d.1.drop (i + 1) := List.drop_eq_getElem_cons hlt
      have hx : d.1[i]? = some d.1[i] := List.getElem?_eq_getElem hlt
      rw [h2, plc]
      simp only [lt_up hlt, getI_of hx, Option.bind_some, beqI, wrap_up hlt (show d.1.length ≤ 1073741824 by omega)]
      by_cases he : d.1[i].1 = x
      · have d1 := decide_eq_true he
        rw [if_pos he]; simp only [d1]; rfl
      · have d1 := decide_eq_false he
        rw [if_neg he]; simp only [d1]; exact ih (i + 1) (by omega)
  exact loop d.1.length 0 (by omega)

def lowR (d : Diag) (e : EdgeT) (out : List Int) : List Int :=
  let a := plc ((atD d (e.1, 0)).getD zI) d.1 0
  let b := plc ((atD d (e.1, 1)).getD zI) d.1 0
  if 0 ≤ a ∧ 0 ≤ b then (out.set a.toNat (min (out.getD a.toNat 0) (out.getD b.toNat 0))).set b.toNat (min (out.getD a.toNat 0) (out.getD b.toNat 0)) else out
def lowRs (d : Diag) : List EdgeT → List Int → List Int
  | [], out => out
  | e :: r, out => lowRs d r (lowR d e out)
def lowN (d : Diag) : Nat → List Int → List Int
  | 0, out => out
  | n + 1, out => lowN d n (lowRs d d.2 out)
def upTo (n : Nat) : List Int := (List.range n).map fun i => ((i : Nat) : Int)
def labels (d : Diag) : List Int := lowN d d.1.length (upTo d.1.length)
theorem lowR_length (d : Diag) (e : EdgeT) (out : List Int) : (lowR d e out).length = out.length := by
  unfold lowR; simp only; split <;> simp
theorem lowRs_length (d : Diag) : ∀ (l : List EdgeT) (out : List Int), (lowRs d l out).length = out.length
  | [], out => rfl
  | e :: r, out => by rw [lowRs, lowRs_length d r, lowR_length]
theorem lowN_length (d : Diag) : ∀ (n : Nat) (out : List Int), (lowN d n out).length = out.length
  | 0, out => rfl
  | n + 1, out => by rw [lowN, lowN_length d n, lowRs_length]
theorem labels_length (d : Diag) : (labels d).length = d.1.length := by unfold labels; rw [lowN_length]; simp [upTo]
theorem lx56_2 (hG : ∀ f g, G f g = none) (d : Diag) (hs : Sm d) (n : Int) (R : List Int → List Int)
    (hR : ∀ out : List Int, out.length = d.1.length → LX G 56 sg56 Tryz.f56 sh56_1 (seg Tryz.prog 56 1) ((IntKind.wrap .i64 (n + 1), ()), (((d, ()), ()), (out, ()))) = some ((R out, ()), ())) :
    ∀ out : List Int, out.length = d.1.length → LX G 56 sg56 Tryz.f56 sh56_2 (seg Tryz.prog 56 2) ((n, ((0 : Int), ())), (((d, ()), ()), (out, ()))) = some ((R (lowRs d d.2 out), ()), ()) := by
  have hv := hs.v; have he := hs.e
  have loop : ∀ (m i : Nat) (out : List Int), i + m = d.2.length → out.length = d.1.length → LX G 56 sg56 Tryz.f56 sh56_2 (seg Tryz.prog 56 2) ((n, ((i : Int), ())), (((d, ()), ()), (out, ()))) = some ((R (lowRs d (d.2.drop i) out), ()), ()) := by
    intro m
    induction m with
    | zero =>
      intro i out hi ho
      have h1 : ¬ ((i : Int) < (d.2.length : Int)) := by omega
      have h2 : d.2.drop i = [] := List.drop_eq_nil_of_le (by omega)
      rw [h2, lowRs]
      refine lx_of (j := 2) (by kernel_rfl) ((nl56_2 _ _ _).trans ?_)
      simp only [h1, decide_false]
      exact hR out ho
    | succ m ih =>
      intro i out hi ho
      have hlt : i < d.2.length := by omega
      have h2 : d.2.drop i = d.2[i] :: d.2.drop (i + 1) := List.drop_eq_getElem_cons hlt
      have hx : d.2[i]? = some d.2[i] := List.getElem?_eq_getElem hlt
      rw [h2, lowRs]
      generalize d.2[i] = e at *
      refine lx_of (j := 2) (by kernel_rfl) ((nl56_2 _ _ _).trans ?_)
      simp only [lt_up hlt, getI_of hx, Option.bind_some, wrap_up hlt (show d.2.length ≤ 1073741824 by omega)]
      refine bind_of (fx20 hG d (e.1, 0) (by omega) (fun w hw => by have := hs.r w hw; omega)) ?_
      refine bind_of (fx20 hG d (e.1, 1) (by omega) (fun w hw => by have := hs.r w hw; omega)) ?_
      rw [show (orV zI (atD d (e.1, 0))).1 = (atD d (e.1, 0)).getD zI from orV_fst _ _, show (orV zI (atD d (e.1, 1))).1 = (atD d (e.1, 1)).getD zI from orV_fst _ _]
      refine bind_of (fx55 (hG _ _) d ((atD d (e.1, 0)).getD zI) hs) ?_
      refine bind_of (fx55 (hG _ _) d ((atD d (e.1, 1)).getD zI) hs) ?_
      have hL : lowR d e out = (if 0 ≤ plc ((atD d (e.1, 0)).getD zI) d.1 0 ∧ 0 ≤ plc ((atD d (e.1, 1)).getD zI) d.1 0 then (out.set (plc ((atD d (e.1, 0)).getD zI) d.1 0).toNat (min (out.getD (plc ((atD d (e.1, 0)).getD zI) d.1 0).toNat 0) (out.getD (plc ((atD d (e.1, 1)).getD zI) d.1 0).toNat 0))).set (plc ((atD d (e.1, 1)).getD zI) d.1 0).toNat (min (out.getD (plc ((atD d (e.1, 0)).getD zI) d.1 0).toNat 0) (out.getD (plc ((atD d (e.1, 1)).getD zI) d.1 0).toNat 0)) else out) := rfl
      have ha := plc_lt ((atD d (e.1, 0)).getD zI) d.1 0 (by omega)
      have hb := plc_lt ((atD d (e.1, 1)).getD zI) d.1 0 (by omega)
      generalize plc ((atD d (e.1, 0)).getD zI) d.1 0 = a at *
      generalize plc ((atD d (e.1, 1)).getD zI) d.1 0 = b at *
      by_cases h3 : 0 ≤ a
      case neg =>
        have d3 : decide (a ≥ 0) = false := decide_eq_false h3
        rw [hL, if_neg (by omega)]
        simp only [d3]; exact ih (i + 1) out (by omega) ho
      have d3 : decide (a ≥ 0) = true := decide_eq_true h3
      by_cases h4 : 0 ≤ b
      case neg =>
        have d4 : decide (b ≥ 0) = false := decide_eq_false h4
        rw [hL, if_neg (by omega)]
        simp only [d3, d4]; exact ih (i + 1) out (by omega) ho
      have d4 : decide (b ≥ 0) = true := decide_eq_true h4
      rw [if_pos ⟨h3, h4⟩] at hL
      have hal : a.toNat < out.length := by omega
      have hbl : b.toNat < out.length := by omega
      have xa : out[a.toNat]? = some out[a.toNat] := List.getElem?_eq_getElem hal
      have xb : out[b.toNat]? = some out[b.toNat] := List.getElem?_eq_getElem hbl
      have ga : out.getD a.toNat 0 = out[a.toNat] := by simp [List.getD, xa]
      have gb : out.getD b.toNat 0 = out[b.toNat] := by simp [List.getD, xb]
      rw [ga, gb] at hL
      generalize out[a.toNat] = p at *
      generalize out[b.toNat] = q at *
      have d5 : decide ((0 : Int) ≤ a) = true := decide_eq_true h3
      have d6 : decide ((0 : Int) ≤ b) = true := decide_eq_true h4
      have d7 : decide (a < ((out.length : Nat) : Int)) = true := decide_eq_true (by omega)
      have d8 : decide (b < ((out.length : Nat) : Int)) = true := decide_eq_true (by omega)
      have hbs : b.toNat < (out.set a.toNat (min p q)).length := by simpa using hbl
      have d9 : decide (b < (((out.set a.toNat (min p q)).length : Nat) : Int)) = true := decide_eq_true (by simp; omega)
      have xs : (out.set a.toNat (min p q))[b.toNat]? = some (out.set a.toNat (min p q))[b.toNat] := List.getElem?_eq_getElem hbs
      simp only [d3, d4, d5, d6, d7, d8, Bool.and_self, xa, xb, Option.bind_some, d9, xs]
      rw [hL]
      exact ih (i + 1) ((out.set a.toNat (min p q)).set b.toNat (min p q)) (by omega) (by simp [ho])
  intro out ho
  exact loop d.2.length 0 out (by omega) ho
theorem fx56 (hG : ∀ f g, G f g = none) (d : Diag) (hs : Sm d) : FX G 56 sg56 ((d, ()), ()) = some ((labels d, ()), ()) := by
  have hv := hs.v
  refine fx_of (fn := Tryz.f56) (hG _ _) (by kernel_rfl) (by kernel_rfl) ((nf56 _ _ _).trans ?_)
  have l1 : ∀ (n i : Nat) (out : List Int), i + n = d.1.length → out.length = d.1.length → LX G 56 sg56 Tryz.f56 sh56_1 (seg Tryz.prog 56 1) (((i : Int), ()), (((d, ()), ()), (out, ()))) = some ((lowN d n out, ()), ()) := by
    intro n
    induction n with
    | zero =>
      intro i out hi ho
      refine lx_of (j := 1) (by kernel_rfl) ((nl56_1 _ _ _).trans ?_)
      have h1 : ¬ ((i : Int) < (d.1.length : Int)) := by omega
      simp only [h1, decide_false]; rfl
    | succ n ih =>
      intro i out hi ho
      refine lx_of (j := 1) (by kernel_rfl) ((nl56_1 _ _ _).trans ?_)
      have hlt : i < d.1.length := by omega
      simp only [lt_up hlt]
      exact lx56_2 hG d hs (i : Int) (lowN d n) (fun out ho => by rw [wrap_up hlt (show d.1.length ≤ 1073741824 by omega)]; exact ih (i + 1) out (by omega) ho) out ho
  have l0 : ∀ (n i : Nat) (out : List Int), i + n = d.1.length → out = upTo i → LX G 56 sg56 Tryz.f56 sh56_0 (seg Tryz.prog 56 0) (((i : Int), ()), (((d, ()), ()), (out, ()))) = some ((labels d, ()), ()) := by
    intro n
    induction n with
    | zero =>
      intro i out hi ho
      refine lx_of (j := 0) (by kernel_rfl) ((nl56_0 _ _ _).trans ?_)
      have h1 : ¬ ((i : Int) < (d.1.length : Int)) := by omega
      have hi' : i = d.1.length := by omega
      subst hi'
      simp only [h1, decide_false]
      have := l1 d.1.length 0 out (by omega) (by rw [ho]; simp [upTo])
      rw [ho] at this ⊢
      exact this
    | succ n ih =>
      intro i out hi ho
      refine lx_of (j := 0) (by kernel_rfl) ((nl56_0 _ _ _).trans ?_)
      have hlt : i < d.1.length := by omega
      have h6 : fitsN out.length [(i : Int)].length = true := fits (by rw [ho]; simp [upTo]; omega)
      simp only [lt_up hlt, h6, wrap_up hlt (show d.1.length ≤ 1073741824 by omega)]
      exact ih (i + 1) (out ++ [(i : Int)]) (by omega) (by rw [ho]; simp [upTo, List.range_succ])
  exact l0 d.1.length 0 [] (by omega) (by simp [upTo])

def countR : List Int → Int → Int → Int
  | [], _, n => n
  | x :: r, i, n => countR r (i + 1) (if x = i then IntKind.wrap .i64 (n + 1) else n)
def countL (d : Diag) : Int := countR (labels d) 0 0
theorem fx32 (hG : ∀ f g, G f g = none) (d : Diag) (hs : Sm d) : FX G 32 sg32 ((d, ()), ()) = some ((countL d, ()), ()) := by
  have hv := hs.v
  have hl := labels_length d
  refine fx_of (fn := Tryz.f32) (hG _ _) (by kernel_rfl) (by kernel_rfl) ((nf32 _ _ _).trans ?_)
  refine bind_of (fx56 hG d hs) ?_
  unfold countL
  generalize labels d = l at *
  have loop : ∀ (m i : Nat) (n : Int), i + m = l.length → LX G 32 sg32 Tryz.f32 sh32_0 (seg Tryz.prog 32 0) ((n, ((i : Int), ())), ((), (l, ()))) = some ((countR (l.drop i) i n, ()), ()) := by
    intro m
    induction m with
    | zero =>
      intro i n hi
      refine lx_of (j := 0) (by kernel_rfl) ((nl32_0 _ _ _).trans ?_)
      have h1 : ¬ ((i : Int) < (l.length : Int)) := by omega
      have h2 : l.drop i = [] := List.drop_eq_nil_of_le (by omega)
      rw [h2]
      simp only [h1, decide_false]; rfl
    | succ m ih =>
      intro i n hi
      refine lx_of (j := 0) (by kernel_rfl) ((nl32_0 _ _ _).trans ?_)
      have hlt : i < l.length := by omega
      have h2 : l.drop i = l[i] :: l.drop (i + 1) := List.drop_eq_getElem_cons hlt
      have hx : l[i]? = some l[i] := List.getElem?_eq_getElem hlt
      rw [h2, countR]
      simp only [lt_up hlt, ge_up, Bool.and_self, Int.toNat_natCast, hx, Option.bind_some, wrap_up hlt (show l.length ≤ 1073741824 by omega)]
      by_cases he : l[i] = (i : Int)
      · have d1 : (l[i] == (i : Int)) = true := by simp [he]
        rw [if_pos he]; simp only [d1]; exact ih (i + 1) _ (by omega)
      · have d1 : (l[i] == (i : Int)) = false := by simp [he]
        rw [if_neg he]; simp only [d1]; exact ih (i + 1) _ (by omega)
  exact loop l.length 0 0 (by omega)
def aloneR : List Vert → Int → Int
  | [], n => n
  | v :: r, n => aloneR r (if v.2.1.length = 0 then IntKind.wrap .i64 (n + 1) else n)
def countF (d : Diag) : Int := aloneR d.1 ((((faces d).length : Nat)) : Int)
theorem fx85 (hG : ∀ f g, G f g = none) (d : Diag) (hs : Sm d) (he : d.2.length ≤ 5000000) : FX G 85 sg85 ((d, ()), ()) = some ((((d.1.length : Nat) : Int), (((d.2.length : Nat) : Int), (countF d, (countL d, ())))), ()) := by
  have hv := hs.v
  refine fx_of (fn := Tryz.f85) (hG _ _) (by kernel_rfl) (by kernel_rfl) ((nf85 _ _ _).trans ?_)
  refine bind_of (fx31 hG d hs he) ?_
  unfold countF
  generalize (((faces d).length : Nat) : Int) = f0
  have key := loop_list d.1 (fun i (n : Int) => LX G 85 sg85 Tryz.f85 sh85_0 (seg Tryz.prog 85 0) ((n, (i, ())), (((d, ()), ()), ()))) (fun (r : List Vert) (n : Int) => ((((d.1.length : Nat) : Int), (((d.2.length : Nat) : Int), (aloneR r n, (countL d, ())))), ())) (fun _ _ => True)
    (fun n _ => by
      refine lx_of (j := 0) (by kernel_rfl) ((nl85_0 _ _ _).trans ?_)
      simp only [lt_end]
      exact bind_of (fx32 hG d hs) rfl)
    (fun i y r n hi hx hrr _ ih => by
      refine lx_of (j := 0) (by kernel_rfl) ((nl85_0 _ _ _).trans ?_)
      simp only [lt_up hi, getI_of hx, Option.bind_some, wrap_up hi (show d.1.length ≤ 1073741824 by omega)]
      by_cases he : y.2.1.length = 0
      · have d1 : ((((y.2.1.length : Nat)) : Int) == 0) = true := by simp [he]
        simp only [d1, aloneR, if_pos he]; exact ih _ trivial
      · have d1 : ((((y.2.1.length : Nat)) : Int) == 0) = false := by simp; intro e; rw [e] at he; simp at he
        simp only [d1, aloneR, if_neg he]; exact ih _ trivial)
    f0 trivial
  exact key
def genusR (d : Diag) : Int := IntKind.wrap .i64 (Int.tdiv (IntKind.wrap .i64 (IntKind.wrap .i64 (IntKind.wrap .i64 (IntKind.wrap .i64 (2 * countL d) - ((d.1.length : Nat) : Int)) + ((d.2.length : Nat) : Int)) - countF d)) 2)
theorem fx64 (hG : ∀ f g, G f g = none) (d : Diag) (hs : Sm d) (he : d.2.length ≤ 5000000) : FX G 64 sg64 ((d, ()), ()) = some ((genusR d, ()), ()) := by
  refine fx_of (fn := Tryz.f64) (hG _ _) (by kernel_rfl) (by kernel_rfl) ((nf64 _ _ _).trans ?_)
  exact bind_of (fx85 hG d hs he) rfl
end Go.Vs

set_option linter.unusedVariables false
set_option linter.unusedSimpArgs false
namespace Go.Vs
open Go.Proofs
variable {G : (f : FuncId) → (g : Sig) → Option (g.A → Option g.B)}

theorem byte_at {s : ByteArray} {i : Nat} {c : UInt8} (h : s.data.toList[i]? = some c) : (if (0 : Int) ≤ (i : Int) then s[Int.toNat (i : Int)]? else none) = some c := by
  have hi : i < s.size := by have := (List.getElem?_eq_some_iff.1 h).1; simpa using this
  rw [if_pos (by omega), Int.toNat_natCast, getElem?_pos s i hi]
  have h2 := (List.getElem?_eq_some_iff.1 h).2
  rw [← h2]
  rfl
def mayC8 (c : UInt8) : Bool := decide (32 ≤ c.toNat) && decide (c.toNat ≤ 126)
def mayL (s : ByteArray) : Bool := s.data.toList.all mayC8 && decide (s.size ≤ 16)
theorem fx28 (hG : G 28 sg28 = none) (s : ByteArray) (hs : s.size ≤ 100000000) : FX G 28 sg28 ((s, ()), ()) = some ((mayL s, ()), ()) := by
  refine fx_of (fn := Tryz.f28) hG (by kernel_rfl) (by kernel_rfl) ((nf28 _ _ _).trans ?_)
  have hl : s.data.toList.length = s.size := by simp
  have key := loop_list s.data.toList (fun i (_ : Unit) => LX G 28 sg28 Tryz.f28 sh28_0 (seg Tryz.prog 28 0) ((s, (i, ())), ((), ()))) (fun (r : List UInt8) (_ : Unit) => ((r.all mayC8 && decide (s.size ≤ 16), ()), ())) (fun _ _ => True)
    (fun _ _ => by
      refine lx_of (j := 0) (by kernel_rfl) ((nl28_0 _ _ _).trans ?_)
      rw [hl]
      have h2 : decide (((s.size : Nat) : Int) ≤ 16) = decide (s.size ≤ 16) := by
        rw [Bool.eq_iff_iff]; simp; omega
      simp only [lt_end, h2, List.all_nil, Bool.true_and]; rfl)
    (fun i c r _ hi hx hrr _ ih => by
      refine lx_of (j := 0) (by kernel_rfl) ((nl28_0 _ _ _).trans ?_)
      rw [hl] at hi
      have hb := byte_at hx
      simp only [lt_up hi, hb, Option.bind_some, wrap_up hi (show s.size ≤ 1073741824 by omega)]
      by_cases h1 : c.toNat < 32
      · have d1 : decide (((c.toNat : Nat) : Int) < 32) = true := decide_eq_true (by omega)
        have d2 : mayC8 c = false := by unfold mayC8; simp; omega
        simp only [d1, List.all_cons, d2, Bool.false_and]; rfl
      · have d1 : decide (((c.toNat : Nat) : Int) < 32) = false := decide_eq_false (by omega)
        by_cases h2 : 126 < c.toNat
        · have d2 : decide (((c.toNat : Nat) : Int) > 126) = true := decide_eq_true (by omega)
          have d3 : mayC8 c = false := by unfold mayC8; simp; omega
          simp only [d1, d2, List.all_cons, d3, Bool.false_and]; rfl
        · have d2 : decide (((c.toNat : Nat) : Int) > 126) = false := decide_eq_false (by omega)
          have d3 : mayC8 c = true := by unfold mayC8; simp; omega
          simp only [d1, d2, List.all_cons, d3, Bool.true_and]; exact ih () trivial)
    () trivial
  exact key
def mayA (n : Int) : Bool := decide (-1099511627776 ≤ n ∧ n ≤ 1099511627776)
theorem fx29 (hG : G 29 sg29 = none) (n : Int) : FX G 29 sg29 ((n, ()), ()) = some ((mayA n, ()), ()) := by
  refine fx_of (fn := Tryz.f29) hG (by kernel_rfl) (by kernel_rfl) ((nf29 _ _ _).trans ?_)
  show (cond (decide (n ≥ -1099511627776)) (some ((decide (n ≤ 1099511627776), ()), ())) (some ((false, ()), ())) : Option ((Bool × Unit) × Unit)) = some ((mayA n, ()), ())
  unfold mayA
  by_cases h1 : -1099511627776 ≤ n <;> simp [h1]

def mayC (c : Cor) : Bool := mayI c.1 && (mayD c.2 || decide (c.2 = zD))
theorem fx68 (hG : ∀ f g, G f g = none) (c : Cor) : FX G 68 sg68 ((c, ()), ()) = some ((mayC c, ()), ()) := by
  refine fx_of (fn := Tryz.f68) (hG _ _) (by kernel_rfl) (by kernel_rfl) ((nf68 _ _ _).trans ?_)
  refine bind_of (fx19 (hG _ _) c.1) ?_
  refine bind_of (fx97 hG c.2) ?_
  have hb : (((c.2.1.1 == (0 : Int)) && (c.2.1.2 == (0 : Int))) && (c.2.2 == (0 : Int))) = decide (c.2 = zD) := beqD c.2 zD
  unfold mayC
  simp only [hb]
  cases h1 : mayI c.1 <;> cases h2 : mayD c.2 <;> rfl

def zOp : OpT := (0, (zI, (zI, (zI, (zC, (zC, (false, (e0, 0))))))))
def restR (o : OpT) : OpT :=
  if o.1 = 3 then (0, (zI, (o.2.2.1, (o.2.2.2.1, (zC, (zC, (o.2.2.2.2.2.2.1, o.2.2.2.2.2.2.2)))))))
  else if o.1 = 5 then (0, (zI, (zI, (zI, (o.2.2.2.2.1, (o.2.2.2.2.2.1, (o.2.2.2.2.2.2.1, (o.2.2.2.2.2.2.2.1, 0))))))))
  else if o.1 = 6 then (0, (zI, (o.2.2.1, (zI, (o.2.2.2.2.1, (o.2.2.2.2.2.1, (o.2.2.2.2.2.2.1, o.2.2.2.2.2.2.2)))))))
  else if o.1 = 7 then (0, (zI, (o.2.2.1, (o.2.2.2.1, (o.2.2.2.2.1, (o.2.2.2.2.2.1, (false, (e0, o.2.2.2.2.2.2.2.2))))))))
  else if o.1 = 8 then (0, (zI, (o.2.2.1, (o.2.2.2.1, (o.2.2.2.2.1, (o.2.2.2.2.2.1, (false, (o.2.2.2.2.2.2.2.1, 0))))))))
  else (0, (zI, (o.2.2.1, (o.2.2.2.1, (o.2.2.2.2.1, (o.2.2.2.2.2.1, (o.2.2.2.2.2.2.1, o.2.2.2.2.2.2.2)))))))
theorem fx67 (hG : G 67 sg67 = none) (o : OpT) : FX G 67 sg67 ((o, ()), ()) = some ((restR o, ()), ()) := by
  refine fx_of (fn := Tryz.f67) hG (by kernel_rfl) (by kernel_rfl) ((nf67 _ _ _).trans ?_)
  unfold restR
  by_cases h3 : o.1 = 3
  · have d : (o.1 == (3 : Int)) = true := by simp [h3]
    rw [if_pos h3]; simp only [d]; rfl
  have d3 : (o.1 == (3 : Int)) = false := by simp [h3]
  rw [if_neg h3]
  by_cases h5 : o.1 = 5
  · have d : (o.1 == (5 : Int)) = true := by simp [h5]
    rw [if_pos h5]; simp only [d3, d]; rfl
  have d5 : (o.1 == (5 : Int)) = false := by simp [h5]
  rw [if_neg h5]
  by_cases h6 : o.1 = 6
  · have d : (o.1 == (6 : Int)) = true := by simp [h6]
    rw [if_pos h6]; simp only [d3, d5, d]; rfl
  have d6 : (o.1 == (6 : Int)) = false := by simp [h6]
  rw [if_neg h6]
  by_cases h7 : o.1 = 7
  · have d : (o.1 == (7 : Int)) = true := by simp [h7]
    rw [if_pos h7]; simp only [d3, d5, d6, d]; rfl
  have d7 : (o.1 == (7 : Int)) = false := by simp [h7]
  rw [if_neg h7]
  by_cases h8 : o.1 = 8
  · have d : (o.1 == (8 : Int)) = true := by simp [h8]
    rw [if_pos h8]; simp only [d3, d5, d6, d7, d]; rfl
  have d8 : (o.1 == (8 : Int)) = false := by simp [h8]
  rw [if_neg h8]; simp only [d3, d5, d6, d7, d8]; rfl

/-- Two operations are the same. -/
def eqOp (x y : OpT) : Bool :=
  (x.1 == y.1) && (((x.2.1.1 == y.2.1.1) && (x.2.1.2 == y.2.1.2)) && (((x.2.2.1.1 == y.2.2.1.1) && (x.2.2.1.2 == y.2.2.1.2)) && (((x.2.2.2.1.1 == y.2.2.2.1.1) && (x.2.2.2.1.2 == y.2.2.2.1.2)) &&
    ((((x.2.2.2.2.1.1.1 == y.2.2.2.2.1.1.1) && (x.2.2.2.2.1.1.2 == y.2.2.2.2.1.1.2)) && (((x.2.2.2.2.1.2.1.1 == y.2.2.2.2.1.2.1.1) && (x.2.2.2.2.1.2.1.2 == y.2.2.2.2.1.2.1.2)) && (x.2.2.2.2.1.2.2 == y.2.2.2.2.1.2.2))) &&
    ((((x.2.2.2.2.2.1.1.1 == y.2.2.2.2.2.1.1.1) && (x.2.2.2.2.2.1.1.2 == y.2.2.2.2.2.1.1.2)) && (((x.2.2.2.2.2.1.2.1.1 == y.2.2.2.2.2.1.2.1.1) && (x.2.2.2.2.2.1.2.1.2 == y.2.2.2.2.2.1.2.1.2)) && (x.2.2.2.2.2.1.2.2 == y.2.2.2.2.2.1.2.2))) &&
    ((x.2.2.2.2.2.2.1 == y.2.2.2.2.2.2.1) && ((x.2.2.2.2.2.2.2.1 == y.2.2.2.2.2.2.2.1) && (x.2.2.2.2.2.2.2.2 == y.2.2.2.2.2.2.2.2))))))))
theorem eqOp_iff (x y : OpT) : eqOp x y = true ↔ x = y := by
  obtain ⟨x1, ⟨x2, x3⟩, ⟨x4, x5⟩, ⟨x6, x7⟩, ⟨⟨x8, x9⟩, ⟨x10, x11⟩, x12⟩, ⟨⟨x13, x14⟩, ⟨x15, x16⟩, x17⟩, x18, x19, x20⟩ := x
  obtain ⟨y1, ⟨y2, y3⟩, ⟨y4, y5⟩, ⟨y6, y7⟩, ⟨⟨y8, y9⟩, ⟨y10, y11⟩, y12⟩, ⟨⟨y13, y14⟩, ⟨y15, y16⟩, y17⟩, y18, y19, y20⟩ := y
  unfold eqOp
  simp only [beqS]
  simp [and_assoc]
theorem cond_not_of {α : Type} {c b : Bool} {x y r : α} (h : c = b) (k : cond (not b) x y = r) : cond (not c) x y = r := by subst h; exact k
def mayOp (o : OpT) : Int :=
  if o.1 < 1 then 1 else if 8 < o.1 then 1 else if mayI o.2.1 = false then 1 else if eqOp (restR o) zOp = false then 1
  else if o.1 = 3 then (if mayC o.2.2.2.2.1 = true ∧ mayC o.2.2.2.2.2.1 = true then 0 else 1)
  else if o.1 = 5 then (if mayI o.2.2.1 = true ∧ mayI o.2.2.2.1 = true ∧ 0 ≤ o.2.2.2.2.2.2.2.2 ∧ o.2.2.2.2.2.2.2.2 ≤ 3 then 0 else 1)
  else if o.1 = 6 then (if mayI o.2.2.2.1 = true then 0 else 1)
  else if o.1 = 8 then (if mayA o.2.2.2.2.2.2.2.2 = true then 0 else 1)
  else if o.1 = 7 then (if mayL o.2.2.2.2.2.2.2.1 = true then 0 else 4)
  else 0
def I1 (n : Int) : Option ((Int × Unit) × Unit) := some ((n, ()), ())
theorem fx45 (hG : ∀ f g, G f g = none) (o : OpT) (ht : o.2.2.2.2.2.2.2.1.size ≤ 100000000) : FX G 45 sg45 ((o, ()), ()) = some ((mayOp o, ()), ()) := by
  refine fx_of (fn := Tryz.f45) (hG _ _) (by kernel_rfl) (by kernel_rfl) ((nf45 _ _ _).trans ?_)
  refine bind_of (fx19 (hG _ _) o.2.1) ?_
  unfold mayOp
  by_cases h1 : o.1 < 1
  · rw [if_pos h1]; have d := decide_eq_true h1; simp only [d]; rfl
  rw [if_neg h1]; have d1 := decide_eq_false h1
  by_cases h2 : 8 < o.1
  · rw [if_pos h2]; have d : decide (o.1 > 8) = true := decide_eq_true h2; simp only [d1, d]; rfl
  rw [if_neg h2]; have d2 : decide (o.1 > 8) = false := decide_eq_false h2
  cases hm : mayI o.2.1
  · rw [if_pos rfl]; simp only [d1, d2]; rfl
  rw [if_neg (by simp)]
  simp only [d1, d2]
  refine bind_of (fx67 (hG _ _) o) ?_
  refine cond_not_of (b := eqOp (restR o) zOp) rfl ?_
  cases he : eqOp (restR o) zOp
  · rw [if_pos rfl]; rfl
  rw [if_neg (by simp)]
  by_cases h3 : o.1 = 3
  · rw [if_pos h3]
    have d : (o.1 == (3 : Int)) = true := by simp [h3]
    simp only [d]
    refine bind_of (fx68 hG o.2.2.2.2.1) ?_
    refine bind_of (fx68 hG o.2.2.2.2.2.1) ?_
    cases hc : mayC o.2.2.2.2.1 <;> cases hc2 : mayC o.2.2.2.2.2.1 <;> rfl
  rw [if_neg h3]
  have d3 : (o.1 == (3 : Int)) = false := by simp [h3]
  by_cases h5 : o.1 = 5
  · rw [if_pos h5]
    have d : (o.1 == (5 : Int)) = true := by simp [h5]
    simp only [d3, d]
    refine bind_of (fx19 (hG _ _) o.2.2.1) ?_
    refine bind_of (fx19 (hG _ _) o.2.2.2.1) ?_
    cases hc : mayI o.2.2.1
    · rw [if_neg (by simp)]; rfl
    cases hc2 : mayI o.2.2.2.1
    · rw [if_neg (by simp)]; rfl
    by_cases h6 : o.2.2.2.2.2.2.2.2 < 0
    · have d6 := decide_eq_true h6
      rw [if_neg (by omega)]; simp only [d6]; rfl
    have d6 := decide_eq_false h6
    by_cases h7 : o.2.2.2.2.2.2.2.2 > 3
    · have d7 := decide_eq_true h7
      rw [if_neg (by omega)]; simp only [d6, d7]; rfl
    have d7 := decide_eq_false h7
    rw [if_pos ⟨rfl, rfl, by omega, by omega⟩]; simp only [d6, d7]; rfl
  rw [if_neg h5]
  have d5 : (o.1 == (5 : Int)) = false := by simp [h5]
  by_cases h6 : o.1 = 6
  · rw [if_pos h6]
    have d : (o.1 == (6 : Int)) = true := by simp [h6]
    simp only [d3, d5, d]
    refine bind_of (fx19 (hG _ _) o.2.2.2.1) ?_
    cases hc : mayI o.2.2.2.1 <;> rfl
  rw [if_neg h6]
  have d6 : (o.1 == (6 : Int)) = false := by simp [h6]
  by_cases h8 : o.1 = 8
  · rw [if_pos h8]
    have d : (o.1 == (8 : Int)) = true := by simp [h8]
    simp only [d3, d5, d6, d]
    refine bind_of (fx29 (hG _ _) o.2.2.2.2.2.2.2.2) ?_
    cases hc : mayA o.2.2.2.2.2.2.2.2 <;> rfl
  rw [if_neg h8]
  have d8 : (o.1 == (8 : Int)) = false := by simp [h8]
  by_cases h7 : o.1 = 7
  · rw [if_pos h7]
    have d : (o.1 == (7 : Int)) = true := by simp [h7]
    simp only [d3, d5, d6, d8, d]
    refine bind_of (fx28 (hG _ _) o.2.2.2.2.2.2.2.1 (by omega)) ?_
    cases hc : mayL o.2.2.2.2.2.2.2.1 <;> rfl
  rw [if_neg h7]
  have d7 : (o.1 == (7 : Int)) = false := by simp [h7]
  simp only [d3, d5, d6, d8, d7]; rfl
def textOk (o : OpT) : Prop := o.2.2.2.2.2.2.2.1.size ≤ 100000000
def firstBad : List OpT → Int
  | [] => 0
  | o :: r => if mayOp o ≠ 0 then mayOp o else firstBad r
def mayEdit (l : List OpT) : Int := if 1 ≤ l.length ∧ l.length ≤ 6 then firstBad l else 3
theorem fx41 (hG : ∀ f g, G f g = none) (l : List OpT) (ht : ∀ o ∈ l, textOk o) : FX G 41 sg41 ((l, ()), ()) = some ((mayEdit l, ()), ()) := by
  refine fx_of (fn := Tryz.f41) (hG _ _) (by kernel_rfl) (by kernel_rfl) ((nf41 _ _ _).trans ?_)
  unfold mayEdit
  by_cases h1 : l.length < 1
  · have d : decide (((l.length : Nat) : Int) < 1) = true := decide_eq_true (by omega)
    rw [if_neg (by omega)]; simp only [d]; rfl
  have d1 : decide (((l.length : Nat) : Int) < 1) = false := decide_eq_false (by omega)
  by_cases h2 : 6 < l.length
  · have d : decide (((l.length : Nat) : Int) > 6) = true := decide_eq_true (by omega)
    rw [if_neg (by omega)]; simp only [d1, d]; rfl
  have d2 : decide (((l.length : Nat) : Int) > 6) = false := decide_eq_false (by omega)
  rw [if_pos (by omega)]
  simp only [d1, d2]
  have key := loop_list l (fun i (_ : Unit) => LX G 41 sg41 Tryz.f41 sh41_0 (seg Tryz.prog 41 0) ((i, ()), (((l, ()), ()), ()))) (fun (r : List OpT) (_ : Unit) => ((firstBad r, ()), ())) (fun _ _ => True)
    (fun _ _ => by
      refine lx_of (j := 0) (by kernel_rfl) ((nl41_0 _ _ _).trans ?_)
      simp only [lt_end]; rfl)
    (fun i o r _ hi hx hrr _ ih => by
      refine lx_of (j := 0) (by kernel_rfl) ((nl41_0 _ _ _).trans ?_)
      simp only [lt_up hi, getI_of hx, Option.bind_some, wrap_up hi (show l.length ≤ 1073741824 by omega)]
      refine bind_of (fx45 hG o (ht o (List.mem_of_getElem? hx))) ?_
      rw [firstBad]
      by_cases h : mayOp o = 0
      · have d : (mayOp o != 0) = false := by simp [h]
        rw [if_neg (by simp [h])]; simp only [d]; exact ih () trivial
      · have d : (mayOp o != 0) = true := by simp [h]
        rw [if_pos h]; simp only [d]; rfl)
    () trivial
  exact key
theorem fx34 (hG : G 34 sg34 = none) (l : List OpT) : FX G 34 sg34 ((l, ()), ()) = some ((l.take 8, ()), ()) := by
  refine fx_of (fn := Tryz.f34) hG (by kernel_rfl) (by kernel_rfl) ((nf34 _ _ _).trans ?_)
  by_cases h : 8 < l.length
  · have d1 : decide (((l.length : Nat) : Int) > 8) = true := decide_eq_true (by omega)
    have d2 : okBounds l.length 0 8 = true := by simp [okBounds]; omega
    simp only [d1, d2]; rfl
  · have d1 : decide (((l.length : Nat) : Int) > 8) = false := decide_eq_false (by omega)
    rw [List.take_of_length_le (by omega)]
    simp only [d1]; rfl
end Go.Vs

set_option linter.unusedVariables false
set_option linter.unusedSimpArgs false
namespace Go.Vs
open Go.Proofs
variable {G : (f : FuncId) → (g : Sig) → Option (g.A → Option g.B)}

theorem cond_T {α : Type} {c : Bool} {x y r : α} (h : c = true) (k : x = r) : cond c x y = r := by subst h; exact k
theorem cond_F {α : Type} {c : Bool} {x y r : α} (h : c = false) (k : y = r) : cond c x y = r := by subst h; exact k
theorem both_T {a b : Bool} (h : a = true) (k : b = true) : (a && b) = true := by rw [h, k]; rfl

def zS : StateT := (([], []), [])
/-! The parts of an operation. -/
abbrev oId (o : OpT) : ID := o.2.1
abbrev oNew (o : OpT) : ID := o.2.2.1
abbrev oOther (o : OpT) : ID := o.2.2.2.1
abbrev oA (o : OpT) : Cor := o.2.2.2.2.1
abbrev oB (o : OpT) : Cor := o.2.2.2.2.2.1
abbrev oOfE (o : OpT) : Bool := o.2.2.2.2.2.2.1
abbrev oText (o : OpT) : ByteArray := o.2.2.2.2.2.2.2.1
abbrev oN (o : OpT) : Int := o.2.2.2.2.2.2.2.2

/-! ### Labels and attributes -/
def setV (o : OpT) (w : Vert) : Vert := if oOfE o = false ∧ w.1 = oId o then (if o.1 = 7 then (w.1, (w.2.1, (oText o, w.2.2.2))) else (w.1, (w.2.1, (w.2.2.1, oN o)))) else w
def setE (o : OpT) (w : EdgeT) : EdgeT := if oOfE o = true ∧ w.1 = oId o then (if o.1 = 7 then (w.1, (oText o, w.2.2)) else (w.1, (w.2.1, oN o))) else w
def hasV (o : OpT) (l : List Vert) : Bool := !(oOfE o) && l.any fun w => decide (w.1 = oId o)
def hasE (o : OpT) (l : List EdgeT) : Bool := oOfE o && l.any fun w => decide (w.1 = oId o)
def setR (s : StateT) (o : OpT) : StateT × (Int × Unit) :=
  if hasV o s.1.1 || hasE o s.1.2 then (((s.1.1.map (setV o), s.1.2.map (setE o)), s.2), (0, ())) else (zS, (13, ()))

theorem lx52_1 (s : StateT) (o : OpT) (vs : List Vert) (hs : Sm s.1) : ∀ (n i : Nat) (fd : Bool) (out fin : List EdgeT), i + n = s.1.2.length → out = (s.1.2.take i).map (setE o) ++ s.1.2.drop i → fin = s.1.2.map (setE o) →
    LX G 52 sg52 Tryz.f52 sh52_1 (seg Tryz.prog 52 1) ((fd, ((i : Int), ())), (((s, ()), ((o, ()), ((([] : List Vert), (([] : List EdgeT), (([] : List GoneT), ()))), ((vs, (out, ())), ())))), ())) =
      some ((if (fd || hasE o (s.1.2.drop i)) then ((((vs, fin), s.2), ((0 : Int), ())) : StateT × (Int × Unit)) else (zS, (13, ()))), ()) := by
  have he := hs.e
  intro n
  induction n with
  | zero =>
    intro i fd out fin hi ho hf
    refine lx_of (j := 1) (by kernel_rfl) ((nl52_1 _ _ _).trans ?_)
    have hol : out.length = s.1.2.length := by rw [ho]; simp; omega
    have h1 : ¬ ((i : Int) < (out.length : Int)) := by omega
    have h2 : out = fin := by rw [ho, hf, List.take_of_length_le (by omega), List.drop_eq_nil_of_le (by omega), List.append_nil]
    have h3 : hasE o (s.1.2.drop i) = false := by rw [List.drop_eq_nil_of_le (by omega)]; simp [hasE]
    subst h2
    rw [h3]
    simp only [h1, decide_false]
    cases fd <;> rfl
  | succ n ih =>
    intro i fd out fin hi ho hf
    refine lx_of (j := 1) (by kernel_rfl) ((nl52_1 _ _ _).trans ?_)
    have hol : out.length = s.1.2.length := by rw [ho]; simp; omega
    have hlt : i < s.1.2.length := by omega
    have hx : s.1.2[i]? = some s.1.2[i] := List.getElem?_eq_getElem hlt
    have hg : out[i]? = some s.1.2[i] := by rw [ho]; exact map_get _ _ _ _ hx
    have h2 : s.1.2.drop i = s.1.2[i] :: s.1.2.drop (i + 1) := List.drop_eq_getElem_cons hlt
    have hlt2 := lt_up (show i < out.length by omega)
    have hw := wrap_up hlt (show s.1.2.length ≤ 1073741824 by omega)
    rw [h2]
    generalize s.1.2[i] = y at *
    have hE : hasE o (y :: s.1.2.drop (i + 1)) = ((oOfE o && decide (y.1 = oId o)) || hasE o (s.1.2.drop (i + 1))) := by
      unfold hasE; cases oOfE o <;> simp
    rw [hE]
    refine cond_T hlt2 ?_
    cases hof : oOfE o
    · have e1 : setE o y = y := by unfold setE; rw [if_neg (by simp [hof])]
      rw [Bool.false_and, Bool.false_or]
      refine cond_F hof ?_
      rw [hw]
      exact ih (i + 1) fd out fin (by omega) (by rw [ho]; exact keep_map _ _ _ _ hx e1) hf
    · rw [Bool.true_and]
      refine cond_T hof ?_
      refine cond_T (both_T (ge_up i) hlt2) ?_
      refine bind_of hg ?_
      by_cases hq : y.1 = oId o
      · refine cond_T ((beqI y.1 (oId o)).trans (decide_eq_true hq)) ?_
        rw [decide_eq_true hq, Bool.true_or, Bool.or_true, hw]
        by_cases h7 : o.1 = 7
        · have e1 : setE o y = (y.1, (oText o, y.2.2)) := by unfold setE; rw [if_pos ⟨hof, hq⟩, if_pos h7]
          refine cond_T (show (o.1 == (7 : Int)) = true by simp [h7]) ?_
          refine cond_T (both_T (ge_up i) hlt2) ?_
          refine bind_of hg ?_
          have := ih (i + 1) true (out.set i (y.1, (oText o, y.2.2))) fin (by omega) (by rw [ho, ← set_map _ _ _ _ hx, e1]) hf
          rw [Bool.true_or] at this; exact this
        · have e1 : setE o y = (y.1, (y.2.1, oN o)) := by unfold setE; rw [if_pos ⟨hof, hq⟩, if_neg h7]
          refine cond_F (show (o.1 == (7 : Int)) = false by simp [h7]) ?_
          refine cond_T (both_T (ge_up i) hlt2) ?_
          refine bind_of hg ?_
          have := ih (i + 1) true (out.set i (y.1, (y.2.1, oN o))) fin (by omega) (by rw [ho, ← set_map _ _ _ _ hx, e1]) hf
          rw [Bool.true_or] at this; exact this
      · have e1 : setE o y = y := by unfold setE; rw [if_neg (fun h => hq h.2)]
        refine cond_F ((beqI y.1 (oId o)).trans (decide_eq_false hq)) ?_
        rw [decide_eq_false hq, Bool.false_or, hw]
        exact ih (i + 1) fd out fin (by omega) (by rw [ho]; exact keep_map _ _ _ _ hx e1) hf
theorem lx52_0 (s : StateT) (o : OpT) (hs : Sm s.1) : ∀ (n i : Nat) (fd : Bool) (out fin : List Vert), i + n = s.1.1.length → out = (s.1.1.take i).map (setV o) ++ s.1.1.drop i → fin = s.1.1.map (setV o) →
    LX G 52 sg52 Tryz.f52 sh52_0 (seg Tryz.prog 52 0) ((fd, ((i : Int), ())), (((s, ()), ((o, ()), ((([] : List Vert), (([] : List EdgeT), (([] : List GoneT), ()))), ((out, (s.1.2, ())), ())))), ())) =
      some ((if ((fd || hasV o (s.1.1.drop i)) || hasE o s.1.2) then ((((fin, s.1.2.map (setE o)), s.2), ((0 : Int), ())) : StateT × (Int × Unit)) else (zS, (13, ()))), ()) := by
  have hv := hs.v
  intro n
  induction n with
  | zero =>
    intro i fd out fin hi ho hf
    refine lx_of (j := 0) (by kernel_rfl) ((nl52_0 _ _ _).trans ?_)
    have hol : out.length = s.1.1.length := by rw [ho]; simp; omega
    have h1 : ¬ ((i : Int) < (out.length : Int)) := by omega
    have h2 : out = fin := by rw [ho, hf, List.take_of_length_le (by omega), List.drop_eq_nil_of_le (by omega), List.append_nil]
    have h3 : hasV o (s.1.1.drop i) = false := by rw [List.drop_eq_nil_of_le (by omega)]; simp [hasV]
    subst h2
    rw [h3, Bool.or_false]
    simp only [h1, decide_false]
    exact lx52_1 s o out hs s.1.2.length 0 fd s.1.2 (s.1.2.map (setE o)) (by omega) (by simp) rfl
  | succ n ih =>
    intro i fd out fin hi ho hf
    refine lx_of (j := 0) (by kernel_rfl) ((nl52_0 _ _ _).trans ?_)
    have hol : out.length = s.1.1.length := by rw [ho]; simp; omega
    have hlt : i < s.1.1.length := by omega
    have hx : s.1.1[i]? = some s.1.1[i] := List.getElem?_eq_getElem hlt
    have hg : out[i]? = some s.1.1[i] := by rw [ho]; exact map_get _ _ _ _ hx
    have h2 : s.1.1.drop i = s.1.1[i] :: s.1.1.drop (i + 1) := List.drop_eq_getElem_cons hlt
    have hlt2 := lt_up (show i < out.length by omega)
    have hw := wrap_up hlt (show s.1.1.length ≤ 1073741824 by omega)
    rw [h2]
    generalize s.1.1[i] = y at *
    have hE : hasV o (y :: s.1.1.drop (i + 1)) = ((!(oOfE o) && decide (y.1 = oId o)) || hasV o (s.1.1.drop (i + 1))) := by
      unfold hasV; cases oOfE o <;> simp
    rw [hE]
    refine cond_T hlt2 ?_
    cases hof : oOfE o
    · rw [Bool.not_false, Bool.true_and]
      refine cond_T (show (!(oOfE o)) = true by rw [hof]; rfl) ?_
      refine cond_T (both_T (ge_up i) hlt2) ?_
      refine bind_of hg ?_
      by_cases hq : y.1 = oId o
      · refine cond_T ((beqI y.1 (oId o)).trans (decide_eq_true hq)) ?_
        rw [decide_eq_true hq, Bool.true_or, Bool.or_true, Bool.true_or, hw]
        by_cases h7 : o.1 = 7
        · have e1 : setV o y = (y.1, (y.2.1, (oText o, y.2.2.2))) := by unfold setV; rw [if_pos ⟨hof, hq⟩, if_pos h7]
          refine cond_T (show (o.1 == (7 : Int)) = true by simp [h7]) ?_
          refine cond_T (both_T (ge_up i) hlt2) ?_
          refine bind_of hg ?_
          have := ih (i + 1) true (out.set i (y.1, (y.2.1, (oText o, y.2.2.2)))) fin (by omega) (by rw [ho, ← set_map _ _ _ _ hx, e1]) hf
          rw [Bool.true_or, Bool.true_or] at this; exact this
        · have e1 : setV o y = (y.1, (y.2.1, (y.2.2.1, oN o))) := by unfold setV; rw [if_pos ⟨hof, hq⟩, if_neg h7]
          refine cond_F (show (o.1 == (7 : Int)) = false by simp [h7]) ?_
          refine cond_T (both_T (ge_up i) hlt2) ?_
          refine bind_of hg ?_
          have := ih (i + 1) true (out.set i (y.1, (y.2.1, (y.2.2.1, oN o)))) fin (by omega) (by rw [ho, ← set_map _ _ _ _ hx, e1]) hf
          rw [Bool.true_or, Bool.true_or] at this; exact this
      · have e1 : setV o y = y := by unfold setV; rw [if_neg (fun h => hq h.2)]
        refine cond_F ((beqI y.1 (oId o)).trans (decide_eq_false hq)) ?_
        rw [decide_eq_false hq, Bool.false_or, hw]
        exact ih (i + 1) fd out fin (by omega) (by rw [ho]; exact keep_map _ _ _ _ hx e1) hf
    · have e1 : setV o y = y := by unfold setV; rw [if_neg (by simp [hof])]
      rw [Bool.not_true, Bool.false_and, Bool.false_or]
      refine cond_F (show (!(oOfE o)) = false by rw [hof]; rfl) ?_
      rw [hw]
      exact ih (i + 1) fd out fin (by omega) (by rw [ho]; exact keep_map _ _ _ _ hx e1) hf
theorem fx52 (hG : ∀ f g, G f g = none) (s : StateT) (o : OpT) (hs : Sm s.1) : FX G 52 sg52 ((s, o, ()), ()) = some (setR s o, ()) := by
  have hv := hs.v; have he := hs.e
  refine fx_of (fn := Tryz.f52) (hG _ _) (by kernel_rfl) (by kernel_rfl) ((nf52 _ _ _).trans ?_)
  refine bind_of (fx38 (hG _ _) s.1 (by omega) (by omega) (fun w hw => by have := hs.r w hw; omega)) ?_
  have := lx52_0 (G := G) s o hs s.1.1.length 0 false s.1.1 (s.1.1.map (setV o)) (by omega) (by simp) rfl
  rw [Bool.false_or] at this
  exact this

end Go.Vs

set_option linter.unusedVariables false
set_option linter.unusedSimpArgs false
namespace Go.Vs
open Go.Proofs
variable {G : (f : FuncId) → (g : Sig) → Option (g.A → Option g.B)}

/-! ### How long things grow -/
structure Bd (n : Nat) (d : Diag) : Prop where
  v : d.1.length ≤ n
  e : d.2.length ≤ n
  r : ∀ w ∈ d.1, w.2.1.length ≤ n
theorem Bd.sm {n : Nat} {d : Diag} (h : Bd n d) (hn : n ≤ 50000000) : Sm d := ⟨by have := h.v; omega, by have := h.e; omega, fun w hw => by have := h.r w hw; omega⟩
theorem Bd.mono {n m : Nat} {d : Diag} (h : Bd n d) (hm : n ≤ m) : Bd m d := ⟨by have := h.v; omega, by have := h.e; omega, fun w hw => by have := h.r w hw; omega⟩
theorem addV_length (v : Vert) : ∀ l : List Vert, (addV v l).length = l.length + 1
  | [] => rfl
  | w :: r => by unfold addV; split <;> simp [addV_length v r]
theorem addE_length (v : EdgeT) : ∀ l : List EdgeT, (addE v l).length = l.length + 1
  | [] => rfl
  | w :: r => by unfold addE; split <;> simp [addE_length v r]
theorem mem_addV {v w : Vert} : ∀ {l : List Vert}, w ∈ addV v l ↔ w = v ∨ w ∈ l
  | [] => by simp [addV]
  | u :: r => by
    unfold addV
    split
    · simp
    · simp only [List.mem_cons, mem_addV (l := r)]
      exact ⟨fun h => by rcases h with h | h | h <;> simp [h], fun h => by rcases h with h | h | h <;> simp [h]⟩
theorem mem_addE {v w : EdgeT} : ∀ {l : List EdgeT}, w ∈ addE v l ↔ w = v ∨ w ∈ l
  | [] => by simp [addE]
  | u :: r => by
    unfold addE
    split
    · simp
    · simp only [List.mem_cons, mem_addE (l := r)]
      exact ⟨fun h => by rcases h with h | h | h <;> simp [h], fun h => by rcases h with h | h | h <;> simp [h]⟩
theorem insR_length (row : List Dart) (a d : Dart) : (insR row a d).length ≤ row.length + 1 := by
  unfold insR
  split
  · rw [turn_length]; omega
  · rw [turn_length]; simp; omega
theorem remR_length (row : List Dart) (d : Dart) : (remR row d).length ≤ row.length := by
  unfold remR; rw [turn_length]; exact List.length_filter_le _ _
theorem swapR_length (row : List Dart) (a d : Dart) : (swapR row a d).length = row.length := by
  unfold swapR; rw [turn_length]; split <;> simp
theorem Bd.ringAt {n : Nat} {d : Diag} (h : Bd n d) (x : ID) : (ringAt d x).length ≤ n := by
  unfold Vs.ringAt
  cases hf : vertex d x with
  | none => simp [zV]
  | some v => exact h.r v (List.mem_of_find?_eq_some hf)
theorem Bd.ringed {n : Nat} {d : Diag} (h : Bd n d) {x : ID} {l : List Dart} (hl : l.length ≤ n) : Bd n (ringed d x l) := by
  refine ⟨by simp [Vs.ringed]; exact h.v, h.e, fun w hw => ?_⟩
  obtain ⟨u, hu, rfl⟩ := List.mem_map.1 hw
  unfold reR
  split
  · exact hl
  · exact h.r u hu
theorem Bd.inserted {n : Nat} {d : Diag} (h : Bd n d) (c : Cor) (x : Dart) : Bd (n + 1) (inserted d c x) :=
  (h.mono (by omega)).ringed (by have := insR_length (Vs.ringAt d c.1) c.2 x; have := h.ringAt c.1; omega)
theorem Bd.swapped {n : Nat} {d : Diag} (h : Bd n d) (a x : Dart) : Bd n (swapped d a x) :=
  h.ringed (by rw [swapR_length]; exact h.ringAt _)
theorem Bd.removed {n : Nat} {d : Diag} (h : Bd n d) (x : Dart) : Bd n (removed d x) :=
  h.ringed (by have := remR_length (Vs.ringAt d ((atD d x).getD zI)) x; have := h.ringAt ((atD d x).getD zI); omega)
theorem Bd.without {n : Nat} {d : Diag} (h : Bd n d) (v e : ID) : Bd n (without d v e) :=
  ⟨Nat.le_trans (List.length_filter_le _ _) h.v, Nat.le_trans (List.length_filter_le _ _) h.e, fun w hw => h.r w (List.mem_filter.1 hw).1⟩
theorem Bd.addV {n : Nat} {d : Diag} (h : Bd n d) (v : Vert) (hv : v.2.1.length ≤ n + 1) : Bd (n + 1) (addV v d.1, d.2) :=
  ⟨by rw [addV_length]; have := h.v; omega, by have := h.e; simp only; omega, fun w hw => by
    rcases mem_addV.1 hw with rfl | hw
    · exact hv
    · have := h.r w hw; omega⟩
theorem Bd.addE {n : Nat} {d : Diag} (h : Bd n d) (v : EdgeT) : Bd (n + 1) (d.1, addE v d.2) :=
  ⟨by have := h.v; simp only; omega, by rw [addE_length]; have := h.e; omega, fun w hw => by have := h.r w hw; omega⟩
theorem addG_length (g : GoneT) : ∀ l : List GoneT, (addG g l).length ≤ l.length + 1
  | [] => by simp [addG]
  | e :: r => by
    unfold addG
    split
    · have := List.length_filter_le (fun q : GoneT => decide (q.1 ≠ g.1)) (e :: r)
      simp [fltG]; simp at this; omega
    · have := addG_length g r
      split <;> simp <;> omega
theorem addGone_length (l : List GoneT) (g : GoneT) : (addGone l g).length ≤ l.length + 1 := by
  unfold addGone; split
  · omega
  · exact addG_length g l

/-! ### The other operations -/
def linkD (s : StateT) (o : OpT) : Diag :=
  inserted (inserted (s.1.1, addE (oId o, (e0, 0)) s.1.2) (cornerR s (oA o)).1 (oId o, 0))
    (if (vertex s.1 (oB o).1).isSome = true ∧ (oB o).2 = (oId o, 0) then oB o else (cornerR s (oB o)).1) (oId o, 1)
def linkR (s : StateT) (o : OpT) : StateT × (Int × Unit) :=
  if (edge s.1 (oId o)).isSome = true then (zS, (12, ()))
  else if 40 ≤ s.1.2.length then (zS, (3, ()))
  else if (cornerR s (oA o)).2.1 ≠ 0 then (zS, (13, ()))
  else if (cornerR s (oB o)).2.1 ≠ 0 then (zS, (13, ()))
  else if genusR (linkD s o) ≠ 0 then (zS, (15, ()))
  else ((linkD s o, s.2), (0, ()))
theorem fx48 (hG : ∀ f g, G f g = none) {n : Nat} (s : StateT) (o : OpT) (hs : Bd n s.1) (hn : n ≤ 4000000) (hg : s.2.length ≤ 50000000) : FX G 48 sg48 ((s, o, ()), ()) = some (linkR s o, ()) := by
  have hv := hs.v; have he := hs.e
  have hsm := hs.sm (by omega)
  refine fx_of (fn := Tryz.f48) (hG _ _) (by kernel_rfl) (by kernel_rfl) ((nf48 _ _ _).trans ?_)
  refine bind_of (fx21 (hG _ _) s.1 (oId o) (by omega)) ?_
  rw [show (orV zE (edge s.1 (oId o))).2.1 = (edge s.1 (oId o)).isSome from orV_snd _ _]
  unfold linkR
  cases h1 : (edge s.1 (oId o)).isSome
  case true => rw [if_pos rfl]; rfl
  rw [if_neg (by simp)]
  by_cases h2 : 40 ≤ s.1.2.length
  · have d : decide (((s.1.2.length : Nat) : Int) ≥ 40) = true := decide_eq_true (by omega)
    rw [if_pos h2]; simp only [d]; rfl
  have d2 : decide (((s.1.2.length : Nat) : Int) ≥ 40) = false := decide_eq_false (by omega)
  rw [if_neg h2]; simp only [d2]
  refine bind_of (fx70 hG s (oA o) hsm hg) ?_
  refine bind_of (fx70 hG s (oB o) hsm hg) ?_
  refine bind_of (fx18 (hG _ _) s.1 (oB o).1 (by omega)) ?_
  rw [show (orV zV (vertex s.1 (oB o).1)).2.1 = (vertex s.1 (oB o).1).isSome from orV_snd _ _]
  have b1 := hs.addE (oId o, (e0, 0))
  have b2 := b1.inserted (cornerR s (oA o)).1 (oId o, 0)
  have fin : ∀ (bc : Cor), linkD s o = inserted (inserted (s.1.1, addE (oId o, (e0, 0)) s.1.2) (cornerR s (oA o)).1 (oId o, 0)) bc (oId o, 1) →
      (cond ((cornerR s (oA o)).2.1 != 0) (some (((([], []), []), ((13 : Int), ())), ()))
       (cond ((cornerR s (oB o)).2.1 != 0) (some (((([], []), []), ((13 : Int), ())), ()))
        ((FX G 71 sg71 ((s.1, ((oId o, (e0, (0 : Int))), ())), ())).bind fun (y5 : ((Diag × Unit) × Unit)) =>
        (FX G 72 sg72 ((y5.1.1, ((cornerR s (oA o)).1, ((oId o, (0 : Int)), ()))), ())).bind fun (y6 : ((Diag × Unit) × Unit)) =>
        (FX G 72 sg72 ((y6.1.1, (bc, ((oId o, (1 : Int)), ()))), ())).bind fun (y7 : ((Diag × Unit) × Unit)) =>
        (FX G 64 sg64 ((y7.1.1, ()), ())).bind fun (y8 : ((Int × Unit) × Unit)) =>
        cond (y8.1.1 != (0 : Int))
         (some (((([], []), []), ((15 : Int), ())), ()))
         (some (((y7.1.1, s.2), ((0 : Int), ())), ())))) : Option ((StateT × (Int × Unit)) × Unit)) =
      some ((if (cornerR s (oA o)).2.1 ≠ 0 then (zS, (13, ())) else if (cornerR s (oB o)).2.1 ≠ 0 then (zS, (13, ())) else if genusR (linkD s o) ≠ 0 then (zS, (15, ())) else ((linkD s o, s.2), (0, ())) : StateT × (Int × Unit)), ()) := by
    intro bc hbc
    by_cases h3 : (cornerR s (oA o)).2.1 = 0
    case neg =>
      have d : ((cornerR s (oA o)).2.1 != 0) = true := by simp [h3]
      rw [if_pos h3, d]; rfl
    rw [if_neg (by simp [h3]), show ((cornerR s (oA o)).2.1 != 0) = false by simp [h3]]
    by_cases h4 : (cornerR s (oB o)).2.1 = 0
    case neg =>
      have d : ((cornerR s (oB o)).2.1 != 0) = true := by simp [h4]
      rw [if_pos h4, d]; rfl
    rw [if_neg (by simp [h4]), show ((cornerR s (oB o)).2.1 != 0) = false by simp [h4]]
    simp only [cond_false]
    have b3 := b2.inserted bc (oId o, 1)
    rw [← hbc] at b3
    refine bind_of (fx71 hG s.1 (oId o, (e0, 0)) (by omega)) ?_
    refine bind_of (fx72 hG _ _ _ (b1.sm (by omega))) ?_
    refine bind_of ((fx72 hG (inserted (s.1.1, addE (oId o, (e0, 0)) s.1.2) (cornerR s (oA o)).1 (oId o, 0)) bc (oId o, 1) (b2.sm (by omega))).trans (congrArg (fun z : Diag => some ((z, ()), ())) hbc.symm)) ?_
    refine bind_of (fx64 hG (linkD s o) (b3.sm (by omega)) (by have := b3.e; omega)) ?_
    by_cases h5 : genusR (linkD s o) = 0
    · rw [if_neg (by simp [h5])]
      have d : (genusR (linkD s o) != 0) = false := by simp [h5]
      simp only [d]; rfl
    · rw [if_pos h5]
      have d : (genusR (linkD s o) != 0) = true := by simp [h5]
      simp only [d]; rfl
  have hb : ((((oB o).2.1.1 == o.2.1.1) && ((oB o).2.1.2 == o.2.1.2)) && ((oB o).2.2 == (0 : Int))) = decide ((oB o).2 = (oId o, 0)) := beqD (oB o).2 (oId o, 0)
  simp only [hb]
  cases h6 : (vertex s.1 (oB o).1).isSome
  · exact fin (cornerR s (oB o)).1 (by unfold linkD; rw [if_neg (by simp [h6])])
  · by_cases h7 : (oB o).2 = (oId o, 0)
    · have d := decide_eq_true h7
      simp only [d]
      exact fin (oB o) (by unfold linkD; rw [if_pos ⟨h6, h7⟩])
    · have d := decide_eq_false h7
      simp only [d]
      exact fin (cornerR s (oB o)).1 (by unfold linkD; rw [if_neg (by simp [h7])])

def cutR (s : StateT) (o : OpT) : StateT × (Int × Unit) :=
  if (edge s.1 (oId o)).isSome = false then (zS, (13, ()))
  else ((without (removed (removed s.1 (oId o, 0)) (oId o, 1)) zI (oId o),
    addGone (addGone s.2 ((oId o, 0), aheadD s.1 (oId o, 0))) ((oId o, 1), aheadD s.1 (oId o, 1))), (0, ()))
theorem fx49 (hG : ∀ f g, G f g = none) {n : Nat} (s : StateT) (o : OpT) (hs : Bd n s.1) (hn : n ≤ 4000000) (hg : s.2.length ≤ 5000000) : FX G 49 sg49 ((s, o, ()), ()) = some (cutR s o, ()) := by
  have hv := hs.v; have he := hs.e
  have hsm := hs.sm (by omega)
  refine fx_of (fn := Tryz.f49) (hG _ _) (by kernel_rfl) (by kernel_rfl) ((nf49 _ _ _).trans ?_)
  refine bind_of (fx21 (hG _ _) s.1 (oId o) (by omega)) ?_
  rw [show (orV zE (edge s.1 (oId o))).2.1 = (edge s.1 (oId o)).isSome from orV_snd _ _]
  unfold cutR
  cases h1 : (edge s.1 (oId o)).isSome
  case false => rw [if_pos rfl]; rfl
  rw [if_neg (by simp)]
  have b1 := hs.removed (oId o, 0)
  have b2 := b1.removed (oId o, 1)
  have l1 := addGone_length s.2 ((oId o, 0), aheadD s.1 (oId o, 0))
  refine bind_of (fx74 hG s.1 (oId o, 0) hsm) ?_
  refine bind_of (fx73 hG s.2 ((oId o, 0), aheadD s.1 (oId o, 0)) (by omega)) ?_
  refine bind_of (fx74 hG s.1 (oId o, 1) hsm) ?_
  refine bind_of (fx73 hG (addGone s.2 ((oId o, 0), aheadD s.1 (oId o, 0))) ((oId o, 1), aheadD s.1 (oId o, 1)) (by omega)) ?_
  refine bind_of (fx75 hG s.1 (oId o, 0) hsm) ?_
  refine bind_of (fx75 hG (removed s.1 (oId o, 0)) (oId o, 1) (b1.sm (by omega))) ?_
  exact bind_of (fx47 (hG _ _) (removed (removed s.1 (oId o, 0)) (oId o, 1)) zI (oId o) (by have := b2.v; omega) (by have := b2.e; omega)) rfl

def spM (o : OpT) : Dart := (oId o, IntKind.wrap .i64 (1 - Int.tmod (oN o) 2))
def spK (o : OpT) : Dart := (oOther o, IntKind.wrap .i64 (Int.tdiv (oN o) 2))
def splitD (s : StateT) (o : OpT) : Diag :=
  (addV (oNew o, (turn [spM o, spK o], (e0, 0))) (swapped s.1 (spM o) (otherD (spK o))).1, addE (oOther o, (e0, 0)) (swapped s.1 (spM o) (otherD (spK o))).2)
def splitR (s : StateT) (o : OpT) : StateT × (Int × Unit) :=
  if (edge s.1 (oId o)).isSome = false then (zS, (13, ()))
  else if (vertex s.1 (oNew o)).isSome = true then (zS, (12, ()))
  else if (edge s.1 (oOther o)).isSome = true then (zS, (12, ()))
  else if 24 ≤ s.1.1.length then (zS, (3, ()))
  else if 40 ≤ s.1.2.length then (zS, (3, ()))
  else ((splitD s o, s.2), (0, ()))
theorem fx50 (hG : ∀ f g, G f g = none) {n : Nat} (s : StateT) (o : OpT) (hs : Bd n s.1) (hn : n ≤ 4000000) : FX G 50 sg50 ((s, o, ()), ()) = some (splitR s o, ()) := by
  have hv := hs.v; have he := hs.e
  have hsm := hs.sm (by omega)
  refine fx_of (fn := Tryz.f50) (hG _ _) (by kernel_rfl) (by kernel_rfl) ((nf50 _ _ _).trans ?_)
  refine bind_of (fx21 (hG _ _) s.1 (oId o) (by omega)) ?_
  rw [show (orV zE (edge s.1 (oId o))).2.1 = (edge s.1 (oId o)).isSome from orV_snd _ _]
  unfold splitR
  cases h1 : (edge s.1 (oId o)).isSome
  case false => rw [if_pos rfl]; rfl
  rw [if_neg (by simp)]
  refine bind_of (fx18 (hG _ _) s.1 (oNew o) (by omega)) ?_
  rw [show (orV zV (vertex s.1 (oNew o))).2.1 = (vertex s.1 (oNew o)).isSome from orV_snd _ _]
  refine bind_of (fx21 (hG _ _) s.1 (oOther o) (by omega)) ?_
  rw [show (orV zE (edge s.1 (oOther o))).2.1 = (edge s.1 (oOther o)).isSome from orV_snd _ _]
  cases h2 : (vertex s.1 (oNew o)).isSome
  case true => rw [if_pos rfl]; rfl
  rw [if_neg (by simp)]
  cases h3 : (edge s.1 (oOther o)).isSome
  case true => rw [if_pos rfl]; rfl
  rw [if_neg (by simp)]
  by_cases h4 : 24 ≤ s.1.1.length
  · have d : decide (((s.1.1.length : Nat) : Int) ≥ 24) = true := decide_eq_true (by omega)
    rw [if_pos h4]; simp only [d]; rfl
  have d4 : decide (((s.1.1.length : Nat) : Int) ≥ 24) = false := decide_eq_false (by omega)
  rw [if_neg h4]
  by_cases h5 : 40 ≤ s.1.2.length
  · have d : decide (((s.1.2.length : Nat) : Int) ≥ 40) = true := decide_eq_true (by omega)
    rw [if_pos h5]; simp only [d4, d]; rfl
  have d5 : decide (((s.1.2.length : Nat) : Int) ≥ 40) = false := decide_eq_false (by omega)
  rw [if_neg h5]
  simp only [d4, d5]
  have d6 : ((2 : Int) == 0) = false := rfl
  simp only [d6]
  have b1 := hs.swapped (spM o) (otherD (spK o))
  have b2 := b1.addE (oOther o, (e0, 0))
  refine bind_of (fx23 (hG _ _) (spK o)) ?_
  refine bind_of (fx76 hG s.1 (spM o) (otherD (spK o)) hsm) ?_
  refine bind_of (fx71 hG (swapped s.1 (spM o) (otherD (spK o))) (oOther o, (e0, 0)) (by have := b1.e; omega)) ?_
  refine bind_of (fx77 hG [spM o, spK o] (by simp)) ?_
  exact bind_of (fx46 hG ((swapped s.1 (spM o) (otherD (spK o))).1, addE (oOther o, (e0, 0)) (swapped s.1 (spM o) (otherD (spK o))).2) (oNew o, (turn [spM o, spK o], (e0, 0))) (Nat.le_trans b1.v (by omega))) rfl
end Go.Vs

set_option linter.unusedVariables false
set_option linter.unusedSimpArgs false
namespace Go.Vs
open Go.Proofs
variable {G : (f : FuncId) → (g : Sig) → Option (g.A → Option g.B)}

def smTo (a b : Dart) (i : Int) : Dart := if (b.1, i) = otherD b then a else zD
def smG (g : List GoneT) (a b : Dart) : List GoneT := addGone (addGone g ((b.1, 0), smTo a b 0)) ((b.1, 1), smTo a b 1)
def smD (s : StateT) (o : OpT) (a b : Dart) : Diag := without (swapped (without s.1 (oId o) zI) (otherD b) a) zI b.1
theorem lx51 (hG : ∀ f g, G f g = none) (g : List GoneT) (a b : Dart) (d : Diag) (hg : g.length ≤ 5000000) :
    LX G 51 sg51 Tryz.f51 sh51_0 (seg Tryz.prog 51 0) ((g, ((0 : Int), ())), (((([] : List Vert), (([] : List EdgeT), (([] : List GoneT), ()))), ((a, ()), ((b, ()), ((otherD b, ()), ((d, ()), ()))))), ())) = some (((d, smG g a b), ((0 : Int), ())), ()) := by
  have l2 : ∀ g2 : List GoneT, LX G 51 sg51 Tryz.f51 sh51_0 (seg Tryz.prog 51 0) ((g2, ((2 : Int), ())), (((([] : List Vert), (([] : List EdgeT), (([] : List GoneT), ()))), ((a, ()), ((b, ()), ((otherD b, ()), ((d, ()), ()))))), ())) = some (((d, g2), ((0 : Int), ())), ()) := fun g2 =>
    lx_of (j := 0) (by kernel_rfl) ((nl51_0 _ _ _).trans (cond_F rfl rfl))
  have step : ∀ (i : Int) (g1 : List GoneT) (r : (StateT × (Int × Unit)) × Unit), i < 2 → g1.length ≤ 5000001 → LX G 51 sg51 Tryz.f51 sh51_0 (seg Tryz.prog 51 0) ((addGone g1 ((b.1, i), smTo a b i), (IntKind.wrap .i64 (i + 1), ())), (((([] : List Vert), (([] : List EdgeT), (([] : List GoneT), ()))), ((a, ()), ((b, ()), ((otherD b, ()), ((d, ()), ()))))), ())) = some r →
      LX G 51 sg51 Tryz.f51 sh51_0 (seg Tryz.prog 51 0) ((g1, (i, ())), (((([] : List Vert), (([] : List EdgeT), (([] : List GoneT), ()))), ((a, ()), ((b, ()), ((otherD b, ()), ((d, ()), ()))))), ())) = some r := fun i g1 r hi hg1 h => by
    refine lx_of (j := 0) (by kernel_rfl) ((nl51_0 _ _ _).trans ?_)
    refine cond_T (decide_eq_true hi) ?_
    unfold smTo at h
    by_cases he : ((b.1, i) : Dart) = otherD b
    · rw [if_pos he] at h
      refine cond_T ((beqD (b.1, i) (otherD b)).trans (decide_eq_true he)) ?_
      refine bind_of (fx73 hG g1 ((b.1, i), a) (by omega)) ?_
      exact h
    · rw [if_neg he] at h
      refine cond_F ((beqD (b.1, i) (otherD b)).trans (decide_eq_false he)) ?_
      refine bind_of (fx73 hG g1 ((b.1, i), zD) (by omega)) ?_
      exact h
  have a1 := addGone_length g ((b.1, 0), smTo a b 0)
  refine step 0 g _ (by omega) (by omega) ?_
  refine step 1 _ _ (by omega) (by omega) ?_
  exact l2 _

def smooth2 (s : StateT) (o : OpT) (r0 r1 : Dart) : StateT × (Int × Unit) :=
  if r0.1 = r1.1 then (zS, (14, ()))
  else if r0.1 = oOther o then ((smD s o r1 r0, smG s.2 r1 r0), (0, ()))
  else if r1.1 = oOther o then ((smD s o r0 r1, smG s.2 r0 r1), (0, ()))
  else (zS, (14, ()))
def smoothR (s : StateT) (o : OpT) : StateT × (Int × Unit) := match vertex s.1 (oId o) with
  | none => (zS, (13, ()))
  | some v => match v.2.1 with
    | [r0, r1] => smooth2 s o r0 r1
    | _ => (zS, (14, ()))
theorem fx51 (hG : ∀ f g, G f g = none) {n : Nat} (s : StateT) (o : OpT) (hs : Bd n s.1) (hn : n ≤ 4000000) (hg : s.2.length ≤ 5000000) : FX G 51 sg51 ((s, o, ()), ()) = some (smoothR s o, ()) := by
  have hv := hs.v; have he := hs.e
  have hsm := hs.sm (by omega)
  refine fx_of (fn := Tryz.f51) (hG _ _) (by kernel_rfl) (by kernel_rfl) ((nf51 _ _ _).trans ?_)
  refine bind_of (fx18 (hG _ _) s.1 (oId o) (by omega)) ?_
  unfold smoothR
  cases hf : vertex s.1 (oId o) with
  | none => rfl
  | some v =>
    refine cond_F (show (!true) = false from rfl) ?_
    have two : ∀ (a b : Dart) (r : Option ((StateT × (Int × Unit)) × Unit)), r = some (((smD s o a b, smG s.2 a b), ((0 : Int), ())), ()) →
        ((FX G 23 sg23 ((b, ()), ())).bind fun (y8 : ((Dart × Unit) × Unit)) =>
         (FX G 47 sg47 ((s.1, (oId o, (zI, ()))), ())).bind fun (y9 : ((Diag × Unit) × Unit)) =>
         (FX G 76 sg76 ((y9.1.1, (y8.1.1, (a, ()))), ())).bind fun (y10 : ((Diag × Unit) × Unit)) =>
         (FX G 47 sg47 ((y10.1.1, (zI, (b.1, ()))), ())).bind fun (y11 : ((Diag × Unit) × Unit)) =>
         LX G 51 sg51 Tryz.f51 sh51_0 (seg Tryz.prog 51 0) ((s.2, ((0 : Int), ())), (((([] : List Vert), (([] : List EdgeT), (([] : List GoneT), ()))), ((a, ()), ((b, ()), ((y8.1.1, ()), ((y11.1.1, ()), ()))))), ()))) = r := fun a b r hr => by
      subst hr
      have b1 := hs.without (oId o) zI
      have b2 := b1.swapped (otherD b) a
      refine bind_of (fx23 (hG _ _) b) ?_
      refine bind_of (fx47 (hG _ _) s.1 (oId o) zI (by omega) (by omega)) ?_
      refine bind_of (fx76 hG (without s.1 (oId o) zI) (otherD b) a (b1.sm (by omega))) ?_
      refine bind_of (fx47 (hG _ _) (swapped (without s.1 (oId o) zI) (otherD b) a) zI b.1 (by have := b2.v; omega) (by have := b2.e; omega)) ?_
      exact lx51 hG s.2 a b (smD s o a b) hg
    obtain ⟨vi, ring, vr⟩ := v
    by_cases hl : ring.length = 2
    case neg =>
      refine cond_T (show ((((ring.length : Nat) : Int)) != 2) = true by simp; omega) ?_
      match ring, hl with
      | [], _ => rfl
      | [_], _ => rfl
      | [_, _], h => exact absurd rfl h
      | _ :: _ :: _ :: _, _ => rfl
    match ring, hl with
    | [r0, r1], _ =>
      refine cond_F (show ((((2 : Nat) : Int)) != 2) = false from rfl) ?_
      refine bind_of (show getI [r0, r1] 0 = some r0 from rfl) ?_
      refine bind_of (show getI [r0, r1] 1 = some r1 from rfl) ?_
      show _ = some (smooth2 s o r0 r1, ())
      unfold smooth2
      by_cases h1 : r0.1 = r1.1
      · rw [if_pos h1]
        exact cond_T ((beqI r0.1 r1.1).trans (decide_eq_true h1)) rfl
      rw [if_neg h1]
      refine cond_F ((beqI r0.1 r1.1).trans (decide_eq_false h1)) ?_
      refine bind_of (show getI [r0, r1] 0 = some r0 from rfl) ?_
      refine bind_of (show getI [r0, r1] 1 = some r1 from rfl) ?_
      by_cases h2 : r0.1 = oOther o
      · rw [if_pos h2]
        refine cond_T ((beqI r0.1 (oOther o)).trans (decide_eq_true h2)) ?_
        refine bind_of (show getI [r0, r1] 1 = some r1 from rfl) ?_
        refine bind_of (show getI [r0, r1] 0 = some r0 from rfl) ?_
        refine cond_F (by rw [show ((r0.1.1 == (oOther o).1) && (r0.1.2 == (oOther o).2)) = true from (beqI r0.1 (oOther o)).trans (decide_eq_true h2)]; rfl) ?_
        exact two r1 r0 _ rfl
      rw [if_neg h2]
      refine cond_F ((beqI r0.1 (oOther o)).trans (decide_eq_false h2)) ?_
      by_cases h3 : r1.1 = oOther o
      · rw [if_pos h3]
        refine cond_F (by rw [show ((r1.1.1 == (oOther o).1) && (r1.1.2 == (oOther o).2)) = true from (beqI r1.1 (oOther o)).trans (decide_eq_true h3)]; rfl) ?_
        exact two r0 r1 _ rfl
      · rw [if_neg h3]
        exact cond_T (by rw [show ((r1.1.1 == (oOther o).1) && (r1.1.2 == (oOther o).2)) = false from (beqI r1.1 (oOther o)).trans (decide_eq_false h3)]; rfl) rfl

def addVR (s : StateT) (o : OpT) : StateT × (Int × Unit) :=
  if (vertex s.1 (oId o)).isSome = true then (zS, (12, ())) else if 24 ≤ s.1.1.length then (zS, (3, ())) else (((addV (oId o, ([], (e0, 0))) s.1.1, s.1.2), s.2), (0, ()))
def remVR (s : StateT) (o : OpT) : StateT × (Int × Unit) := match vertex s.1 (oId o) with
  | none => (zS, (13, ()))
  | some v => if 0 < v.2.1.length then (zS, (14, ())) else ((without s.1 (oId o) zI, s.2), (0, ()))
def oneR (s : StateT) (o : OpT) : StateT × (Int × Unit) :=
  if mayOp o ≠ 0 then (zS, (mayOp o, ()))
  else if o.1 = 1 then addVR s o else if o.1 = 2 then remVR s o else if o.1 = 3 then linkR s o else if o.1 = 4 then cutR s o else if o.1 = 5 then splitR s o else if o.1 = 6 then smoothR s o else setR s o
theorem fx15 (hG : ∀ f g, G f g = none) {n : Nat} (s : StateT) (o : OpT) (hs : Bd n s.1) (hn : n ≤ 4000000) (hg : s.2.length ≤ 5000000) (ht : textOk o) : FX G 15 sg15 ((s, o, ()), ()) = some (oneR s o, ()) := by
  have hv := hs.v; have he := hs.e
  refine fx_of (fn := Tryz.f15) (hG _ _) (by kernel_rfl) (by kernel_rfl) ((nf15 _ _ _).trans ?_)
  refine bind_of (fx45 hG o ht) ?_
  unfold oneR
  by_cases h0 : mayOp o = 0
  case neg =>
    rw [if_pos h0]
    exact cond_T (show (mayOp o != 0) = true by simp [h0]) rfl
  rw [if_neg (by simp [h0])]
  refine cond_F (show (mayOp o != 0) = false by simp [h0]) ?_
  refine bind_of (fx18 (hG _ _) s.1 (oId o) (by omega)) ?_
  by_cases h1 : o.1 = 1
  · rw [if_pos h1]
    refine cond_T (show (o.1 == (1 : Int)) = true by simp [h1]) ?_
    rw [show (orV zV (vertex s.1 (oId o))).2.1 = (vertex s.1 (oId o)).isSome from orV_snd _ _]
    unfold addVR
    cases hf : (vertex s.1 (oId o)).isSome
    · rw [if_neg (by simp)]
      refine cond_F rfl ?_
      by_cases h4 : 24 ≤ s.1.1.length
      · rw [if_pos h4]
        exact cond_T (decide_eq_true (show ((s.1.1.length : Nat) : Int) ≥ 24 by omega)) rfl
      · rw [if_neg h4]
        refine cond_F (decide_eq_false (show ¬ ((s.1.1.length : Nat) : Int) ≥ 24 by omega)) ?_
        exact bind_of (fx46 hG s.1 (oId o, ([], (e0, 0))) (by omega)) rfl
    · rw [if_pos rfl]; rfl
  rw [if_neg h1]
  refine cond_F (show (o.1 == (1 : Int)) = false by simp [h1]) ?_
  by_cases h2 : o.1 = 2
  · rw [if_pos h2]
    refine cond_T (show (o.1 == (2 : Int)) = true by simp [h2]) ?_
    unfold remVR
    cases hf : vertex s.1 (oId o) with
    | none => rfl
    | some v =>
      refine cond_F (show (!true) = false from rfl) ?_
      by_cases h4 : 0 < v.2.1.length
      · show _ = some ((if 0 < v.2.1.length then (zS, (14, ())) else ((without s.1 (oId o) zI, s.2), (0, ())) : StateT × (Int × Unit)), ())
        rw [if_pos h4]
        exact cond_T (decide_eq_true (show ((v.2.1.length : Nat) : Int) > 0 by omega)) rfl
      · show _ = some ((if 0 < v.2.1.length then (zS, (14, ())) else ((without s.1 (oId o) zI, s.2), (0, ())) : StateT × (Int × Unit)), ())
        rw [if_neg h4]
        refine cond_F (decide_eq_false (show ¬ ((v.2.1.length : Nat) : Int) > 0 by omega)) ?_
        exact bind_of (fx47 (hG _ _) s.1 (oId o) zI (by omega) (by omega)) rfl
  rw [if_neg h2]
  refine cond_F (show (o.1 == (2 : Int)) = false by simp [h2]) ?_
  by_cases h3 : o.1 = 3
  · rw [if_pos h3]
    refine cond_T (show (o.1 == (3 : Int)) = true by simp [h3]) ?_
    exact bind_of (fx48 hG s o hs hn (by omega)) rfl
  rw [if_neg h3]
  refine cond_F (show (o.1 == (3 : Int)) = false by simp [h3]) ?_
  by_cases h4 : o.1 = 4
  · rw [if_pos h4]
    refine cond_T (show (o.1 == (4 : Int)) = true by simp [h4]) ?_
    exact bind_of (fx49 hG s o hs hn hg) rfl
  rw [if_neg h4]
  refine cond_F (show (o.1 == (4 : Int)) = false by simp [h4]) ?_
  by_cases h5 : o.1 = 5
  · rw [if_pos h5]
    refine cond_T (show (o.1 == (5 : Int)) = true by simp [h5]) ?_
    exact bind_of (fx50 hG s o hs hn) rfl
  rw [if_neg h5]
  refine cond_F (show (o.1 == (5 : Int)) = false by simp [h5]) ?_
  by_cases h6 : o.1 = 6
  · rw [if_pos h6]
    refine cond_T (show (o.1 == (6 : Int)) = true by simp [h6]) ?_
    exact bind_of (fx51 hG s o hs hn hg) rfl
  rw [if_neg h6]
  refine cond_F (show (o.1 == (6 : Int)) = false by simp [h6]) ?_
  exact bind_of (fx52 hG s o (hs.sm (by omega))) rfl

/-! How long the state grows. -/
structure Bs (n : Nat) (s : StateT) : Prop where
  d : Bd n s.1
  g : s.2.length ≤ n
theorem Bs.mono {n m : Nat} {s : StateT} (h : Bs n s) (hm : n ≤ m) : Bs m s := ⟨h.d.mono hm, by have := h.g; omega⟩
theorem Bs.zero (n : Nat) : Bs n zS := ⟨⟨Nat.zero_le _, Nat.zero_le _, fun w hw => by simp [zS] at hw⟩, Nat.zero_le _⟩
theorem Bs.one {n : Nat} {s : StateT} (h : Bs n s) (o : OpT) : Bs (n + 3) (oneR s o).1 := by
  have h1 := h.d; have h2 := h.g
  unfold oneR
  split
  · exact Bs.zero _
  split
  · unfold addVR; split
    · exact Bs.zero _
    split
    · exact Bs.zero _
    · exact ⟨(h1.addV _ (by simp)).mono (by omega), by simp only; omega⟩
  split
  · unfold remVR
    cases vertex s.1 (oId o) with
    | none => exact Bs.zero _
    | some v =>
      simp only
      split
      · exact Bs.zero _
      · exact ⟨(h1.without _ _).mono (by omega), by simp only; omega⟩
  split
  · unfold linkR
    split; · exact Bs.zero _
    split; · exact Bs.zero _
    split; · exact Bs.zero _
    split; · exact Bs.zero _
    split; · exact Bs.zero _
    exact ⟨by unfold linkD; exact ((h1.addE _).inserted _ _).inserted _ _, by simp only; omega⟩
  split
  · unfold cutR
    split; · exact Bs.zero _
    refine ⟨(((h1.removed _).removed _).without _ _).mono (by omega), ?_⟩
    have a1 := addGone_length s.2 ((oId o, 0), aheadD s.1 (oId o, 0))
    have a2 := addGone_length (addGone s.2 ((oId o, 0), aheadD s.1 (oId o, 0))) ((oId o, 1), aheadD s.1 (oId o, 1))
    simp only; omega
  split
  · unfold splitR
    split; · exact Bs.zero _
    split; · exact Bs.zero _
    split; · exact Bs.zero _
    split; · exact Bs.zero _
    split; · exact Bs.zero _
    refine ⟨?_, by simp only; omega⟩
    have b2 := ((h1.swapped (spM o) (otherD (spK o))).addE (oOther o, (e0, 0)))
    exact (b2.addV (oNew o, (turn [spM o, spK o], (e0, 0))) (by simp [turn_length])).mono (by omega)
  split
  · unfold smoothR
    have key : ∀ a b : Dart, Bs (n + 3) (smD s o a b, smG s.2 a b) := fun a b => by
      refine ⟨(((h1.without _ _).swapped _ _).without _ _).mono (by omega), ?_⟩
      have a1 := addGone_length s.2 ((b.1, 0), smTo a b 0)
      have a2 := addGone_length (addGone s.2 ((b.1, 0), smTo a b 0)) ((b.1, 1), smTo a b 1)
      simp only [smG]; omega
    split
    · exact Bs.zero _
    · split
      · unfold smooth2
        split; · exact Bs.zero _
        split; · exact key _ _
        split; · exact key _ _
        exact Bs.zero _
      · exact Bs.zero _
  · unfold setR
    split
    · refine ⟨⟨by simp; have := h1.v; omega, by simp; have := h1.e; omega, fun w hw => ?_⟩, by simp only; omega⟩
      obtain ⟨u, hu, rfl⟩ := List.mem_map.1 hw
      have hr := h1.r u hu
      have e : (setV o u).2.1 = u.2.1 := by unfold setV; split <;> (try split) <;> rfl
      rw [e]; omega
    · exact Bs.zero _

def goR : List OpT → StateT → StateT × (Int × Unit)
  | [], s => (s, (0, ()))
  | o :: r, s => if (oneR s o).2.1 ≠ 0 then (zS, (oneR s o).2) else goR r (oneR s o).1
def applyR (s : StateT) (l : List OpT) : StateT × (Int × Unit) := if mayEdit l ≠ 0 then (zS, (mayEdit l, ())) else goR l s
theorem Bs.go {l : List OpT} : ∀ {n : Nat} {s : StateT}, Bs n s → Bs (n + 3 * l.length) (goR l s).1 := by
  induction l with
  | nil => intro n s h; exact h.mono (by simp)
  | cons o r ih =>
    intro n s h
    unfold goR
    split
    · exact Bs.zero _
    · exact (ih (h.one o)).mono (by simp; omega)
theorem fx35 (hG : ∀ f g, G f g = none) {n : Nat} (s : StateT) (l : List OpT) (hs : Bs n s) (hn : n + 3 * l.length ≤ 3000000) (ht : ∀ o ∈ l, textOk o) : FX G 35 sg35 ((s, l, ()), ()) = some (applyR s l, ()) := by
  refine fx_of (fn := Tryz.f35) (hG _ _) (by kernel_rfl) (by kernel_rfl) ((nf35 _ _ _).trans ?_)
  refine bind_of (fx41 hG l ht) ?_
  unfold applyR
  by_cases h0 : mayEdit l = 0
  case neg =>
    rw [if_pos h0]
    exact cond_T (show (mayEdit l != 0) = true by simp [h0]) rfl
  rw [if_neg (by simp [h0])]
  refine cond_F (show (mayEdit l != 0) = false by simp [h0]) ?_
  have key := loop_list l (fun i (s : StateT) => LX G 35 sg35 Tryz.f35 sh35_0 (seg Tryz.prog 35 0) ((i, ()), (((s, ()), ((l, ()), ((([] : List Vert), (([] : List EdgeT), (([] : List GoneT), ()))), ()))), ()))) (fun (r : List OpT) (s : StateT) => (goR r s, ()))
    (fun m s => ∃ k, Bs k s ∧ k + 3 * m ≤ 3000000)
    (fun s _ => by
      exact lx_of (j := 0) (by kernel_rfl) ((nl35_0 _ _ _).trans (cond_F (lt_end _) rfl)))
    (fun i o r s hi hx hrr hk ih => by
      obtain ⟨k, hb, hk⟩ := hk
      refine lx_of (j := 0) (by kernel_rfl) ((nl35_0 _ _ _).trans ?_)
      refine cond_T (lt_up hi) ?_
      refine bind_of (getI_of hx) ?_
      have hbd := hb.d; have hbg := hb.g
      refine bind_of (fx15 hG s o hbd (by omega) (by omega) (ht o (List.mem_of_getElem? hx))) ?_
      rw [goR]
      by_cases h1 : (oneR s o).2.1 = 0
      · rw [if_neg (by simp [h1])]
        refine cond_F (show ((oneR s o).2.1 != 0) = false by simp [h1]) ?_
        rw [wrap_up hi (show l.length ≤ 1073741824 by omega)]
        exact ih (oneR s o).1 ⟨k + 3, hb.one o, by omega⟩
      · rw [if_pos h1]
        exact cond_T (show ((oneR s o).2.1 != 0) = true by simp [h1]) rfl)
    s ⟨n, hs, hn⟩
  exact key
def tryR (s : StateT) (l : List OpT) : StateT := if (applyR s l).2.1 ≠ 0 then s else (applyR s l).1
theorem fx37 (hG : ∀ f g, G f g = none) {n : Nat} (s : StateT) (l : List OpT) (hs : Bs n s) (hn : n + 3 * l.length ≤ 3000000) (ht : ∀ o ∈ l, textOk o) : FX G 37 sg37 ((s, l, ()), ()) = some ((tryR s l, ()), ()) := by
  refine fx_of (fn := Tryz.f37) (hG _ _) (by kernel_rfl) (by kernel_rfl) ((nf37 _ _ _).trans ?_)
  refine bind_of (fx35 hG s l hs hn ht) ?_
  unfold tryR
  by_cases h1 : (applyR s l).2.1 = 0
  · rw [if_neg (by simp [h1])]
    exact cond_F (show ((applyR s l).2.1 != 0) = false by simp [h1]) rfl
  · rw [if_pos h1]
    exact cond_T (show ((applyR s l).2.1 != 0) = true by simp [h1]) rfl
theorem Bs.try {n : Nat} {s : StateT} {l : List OpT} (h : Bs n s) : Bs (n + 3 * l.length) (tryR s l) := by
  unfold tryR
  split
  · exact h.mono (by omega)
  · unfold applyR
    split
    · exact Bs.zero _
    · exact h.go
def reachR : Nat → List (List OpT) → StateT → StateT
  | 0, _, s => s
  | _ + 1, [], s => s
  | n + 1, l :: r, s => reachR n r (tryR s (l.take 8))
def reachedR (l : List (List OpT)) : StateT := reachR 30 l zS
theorem Bs.reach : ∀ (m : Nat) (l : List (List OpT)) {n : Nat} {s : StateT}, Bs n s → Bs (n + 24 * m) (reachR m l s)
  | 0, _, n, s, h => by simpa [reachR] using h
  | m + 1, [], n, s, h => h.mono (by omega)
  | m + 1, l :: r, n, s, h => by
    rw [reachR]
    have h1 : Bs (n + 3 * (l.take 8).length) (tryR s (l.take 8)) := h.try
    have hl : (l.take 8).length ≤ 8 := by simp; omega
    exact (Bs.reach m r (h1.mono (show n + 3 * (l.take 8).length ≤ n + 24 by omega))).mono (by omega)
theorem Bs.reached (l : List (List OpT)) : Bs 720 (reachedR l) := (Bs.reach 30 l (Bs.zero 0)).mono (by omega)
theorem fx17 (hG : ∀ f g, G f g = none) (l : List (List OpT)) (hl : l.length ≤ 1073741824) (ht : ∀ e ∈ l, ∀ o ∈ e, textOk o) : FX G 17 sg17 ((l, ()), ()) = some ((reachedR l, ()), ()) := by
  refine fx_of (fn := Tryz.f17) (hG _ _) (by kernel_rfl) (by kernel_rfl) ((nf17 _ _ _).trans ?_)
  have loop : ∀ (n i m : Nat) (s : StateT), i + n = l.length → i + m = 30 → Bs (24 * i) s → LX G 17 sg17 Tryz.f17 sh17_0 (seg Tryz.prog 17 0) ((l, ((i : Int), ())), (((((([] : List Vert), ([] : List EdgeT)), ([] : List GoneT)), ()), ((s, ()), ())), ())) = some ((reachR m (l.drop i) s, ()), ()) := by
    intro n
    induction n with
    | zero =>
      intro i m s hi hm hb
      have h2 : l.drop i = [] := List.drop_eq_nil_of_le (by omega)
      have h3 : reachR m (l.drop i) s = s := by rw [h2]; cases m <;> rfl
      rw [h3]
      exact lx_of (j := 0) (by kernel_rfl) ((nl17_0 _ _ _).trans (cond_F (decide_eq_false (show ¬ ((i : Int) < ((l.length : Nat) : Int)) by omega)) rfl))
    | succ n ih =>
      intro i m s hi hm hb
      refine lx_of (j := 0) (by kernel_rfl) ((nl17_0 _ _ _).trans ?_)
      have hlt : i < l.length := by omega
      refine cond_T (lt_up hlt) ?_
      cases m with
      | zero => exact cond_F (decide_eq_false (show ¬ ((i : Int) < 30) by omega)) rfl
      | succ m =>
        refine cond_T (decide_eq_true (show ((i : Int) < 30) by omega)) ?_
        have h2 : l.drop i = l[i] :: l.drop (i + 1) := List.drop_eq_getElem_cons hlt
        have hx : l[i]? = some l[i] := List.getElem?_eq_getElem hlt
        have hlen : (l[i].take 8).length ≤ 8 := by simp; omega
        rw [h2, reachR]
        refine bind_of (getI_of hx) ?_
        refine bind_of (fx34 (hG _ _) l[i]) ?_
        refine bind_of (fx37 hG s (l[i].take 8) hb (by omega) (fun o ho => ht l[i] (List.getElem_mem hlt) o (List.mem_of_mem_take ho))) ?_
        rw [wrap_up hlt hl]
        have hb2 : Bs (24 * i + 3 * (l[i].take 8).length) (tryR s (l[i].take 8)) := hb.try
        exact ih (i + 1) m (tryR s (l[i].take 8)) (by omega) (by omega) (hb2.mono (by omega))
  exact loop l.length 0 30 zS (by omega) (by omega) (Bs.zero _)
end Go.Vs
