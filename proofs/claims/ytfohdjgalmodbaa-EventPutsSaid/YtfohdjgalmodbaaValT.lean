/- Plain facts on texts' written form, and on what is read of a text; nothing of the program. -/
import Derived.Lib.ItoaLen
import Derived.Test.YtfohdjgalmodbaaValW
set_option linter.unusedVariables false
set_option linter.unusedSimpArgs false
namespace Tryst
open Go Go.Lib
/-- an octet of a text, as it is written -/
def esc1 (c : UInt8) : List UInt8 := if c = 34 ∨ c = 92 then [92, c] else [c]
def esc (t : List UInt8) : List UInt8 := t.flatMap esc1
/-- a text's written form -/
def wr (t : List UInt8) : List UInt8 := 34 :: (esc t ++ [34])
theorem esc_cons (c : UInt8) (t : List UInt8) : esc (c :: t) = esc1 c ++ esc t := rfl
theorem esc_snoc (c : UInt8) (t : List UInt8) : esc (t ++ [c]) = esc t ++ esc1 c := by simp [esc]
/-- a value's written form -/
def V.write (v : V) : List UInt8 := if v.num then itoa v.n else wr v.s
/-- what stands behind a ", so many octets of the text being there -/
def txtF : List UInt8 → Nat → Option (List UInt8 × Nat)
  | [], _ => none
  | c :: l, n =>
    if c = 34 then some ([], 1)
    else if c = 92 then
      match l with
      | [] => none
      | d :: r => if d = 34 ∨ d = 92 then (if n = 60 then none else (txtF r (n + 1)).map fun p => (d :: p.1, p.2 + 2)) else none
    else if n = 60 then none else (txtF l (n + 1)).map fun p => (c :: p.1, p.2 + 1)
theorem txtF_quote (l : List UInt8) (n : Nat) : txtF (34 :: l) n = some ([], 1) := by rw [txtF.eq_def]; simp
theorem txtF_bs (d : UInt8) (r : List UInt8) (n : Nat) : txtF (92 :: d :: r) n = if d = 34 ∨ d = 92 then (if n = 60 then none else (txtF r (n + 1)).map fun p => (d :: p.1, p.2 + 2)) else none := by
  rw [txtF.eq_def]; simp
theorem txtF_plain {c : UInt8} (h1 : c ≠ 34) (h2 : c ≠ 92) (l : List UInt8) (n : Nat) : txtF (c :: l) n = if n = 60 then none else (txtF l (n + 1)).map fun p => (c :: p.1, p.2 + 1) := by
  rw [txtF.eq_def]; simp only; rw [if_neg h1, if_neg h2]
theorem txtF_ok (k : Nat) : ∀ (l : List UInt8) (n : Nat) (t : List UInt8) (q : Nat), l.length ≤ k → n ≤ 60 → txtF l n = some (t, q) →
    q ≤ l.length ∧ l.take q = esc t ++ [34] ∧ n + t.length ≤ 60 := by
  induction k with
  | zero =>
    intro l n t q hl hn h
    have : l = [] := List.eq_nil_of_length_eq_zero (by omega)
    subst this
    simp [txtF] at h
  | succ k ih =>
    intro l n t q hl hn h
    cases l with
    | nil => simp [txtF] at h
    | cons c l =>
      unfold txtF at h
      by_cases h1 : c = 34
      · rw [if_pos h1] at h
        simp only [Option.some.injEq, Prod.mk.injEq] at h
        obtain ⟨rfl, rfl⟩ := h
        subst h1
        simp [esc]; omega
      rw [if_neg h1] at h
      by_cases h2 : c = 92
      · rw [if_pos h2] at h
        cases l with
        | nil => simp at h
        | cons d r =>
          simp only at h
          by_cases h3 : d = 34 ∨ d = 92
          · rw [if_pos h3] at h
            by_cases h4 : n = 60
            · rw [if_pos h4] at h; simp at h
            rw [if_neg h4] at h
            cases hr : txtF r (n + 1) with
            | none => rw [hr] at h; simp at h
            | some p =>
              rw [hr] at h
              simp only [Option.map_some, Option.some.injEq, Prod.mk.injEq] at h
              obtain ⟨rfl, rfl⟩ := h
              obtain ⟨g1, g2, g3⟩ := ih r (n + 1) p.1 p.2 (by simp at hl; omega) (by omega) hr
              refine ⟨by simp; omega, ?_, by simp; omega⟩
              rw [show p.2 + 2 = p.2 + 1 + 1 by omega, List.take_succ_cons, List.take_succ_cons, g2, esc_cons]
              simp [esc1, h3, h2]
          · rw [if_neg h3] at h; simp at h
      rw [if_neg h2] at h
      by_cases h4 : n = 60
      · rw [if_pos h4] at h; simp at h
      rw [if_neg h4] at h
      cases hr : txtF l (n + 1) with
      | none => rw [hr] at h; simp at h
      | some p =>
        rw [hr] at h
        simp only [Option.map_some, Option.some.injEq, Prod.mk.injEq] at h
        obtain ⟨rfl, rfl⟩ := h
        obtain ⟨g1, g2, g3⟩ := ih l (n + 1) p.1 p.2 (by simp at hl; omega) (by omega) hr
        refine ⟨by simp; omega, ?_, by simp; omega⟩
        rw [List.take_succ_cons, g2, esc_cons]
        simp [esc1, h1, h2]
theorem txtF_esc (t : List UInt8) : ∀ (n : Nat) (r : List UInt8), n + t.length ≤ 60 → txtF (esc t ++ 34 :: r) n = some (t, (esc t).length + 1) := by
  induction t with
  | nil => intro n r _; exact txtF_quote r n
  | cons c t ih =>
    intro n r h
    simp only [List.length_cons] at h
    rw [esc_cons]
    by_cases hc : c = 34 ∨ c = 92
    · have e : esc1 c = [92, c] := by simp [esc1, hc]
      rw [e]
      simp only [List.cons_append, List.nil_append, txtF]
      rw [if_neg (by decide), if_pos trivial, if_pos hc, if_neg (by omega), ih (n + 1) r (by omega)]
      simp
    · have e : esc1 c = [c] := by simp [esc1, hc]
      rw [e]
      simp only [List.cons_append, List.nil_append]
      unfold txtF
      rw [if_neg (fun h => hc (.inl h)), if_neg (fun h => hc (.inr h)), if_neg (by omega), ih (n + 1) r (by omega)]
      simp
/-- the value that a text begins with, and how many octets; 0: there is none -/
def readV (l : List UInt8) : V × Nat :=
  match l with
  | [] => (V.zero, 0)
  | c :: r =>
    if c = 34 then (match txtF r 0 with | some p => (⟨false, 0, p.1⟩, p.2 + 1) | none => (V.zero, 0))
    else if (numberL (c :: r)).2 = 0 then (V.zero, 0) else (⟨true, (numberL (c :: r)).1, []⟩, (numberL (c :: r)).2)
theorem esc_length (t : List UInt8) : (esc t).length ≤ 2 * t.length := by
  induction t with
  | nil => simp [esc]
  | cons c t ih => rw [esc_cons]; simp only [esc1]; split <;> simp <;> omega
theorem read_ok {l : List UInt8} {v : V} {k : Nat} (h : readV l = (v, k)) (hk : k ≠ 0) : v.May ∧ v.Fits ∧ k ≤ l.length ∧ l.take k = v.write := by
  unfold readV at h
  cases l with
  | nil => simp at h; omega
  | cons c r =>
    simp only at h
    by_cases h1 : c = 34
    · rw [if_pos h1] at h
      cases ht : txtF r 0 with
      | none => rw [ht] at h; simp at h; omega
      | some p =>
        rw [ht] at h
        simp only [Prod.mk.injEq] at h
        obtain ⟨rfl, rfl⟩ := h
        obtain ⟨g1, g2, g3⟩ := txtF_ok r.length r 0 p.1 p.2 (Nat.le_refl _) (by omega) ht
        refine ⟨by simp [V.May]; omega, by simp [V.Fits], by simp; omega, ?_⟩
        rw [List.take_succ_cons, g2, h1]
        simp [V.write, wr]
    · rw [if_neg h1] at h
      by_cases h2 : (numberL (c :: r)).2 = 0
      · rw [if_pos h2] at h; simp at h; omega
      · rw [if_neg h2] at h
        simp only [Prod.mk.injEq] at h
        obtain ⟨rfl, rfl⟩ := h
        rcases number_spec (c :: r) with ⟨h3, _⟩ | ⟨⟨_, g2, g3, g4⟩, _⟩
        · rw [h3] at h2; simp at h2
        · exact ⟨by simp [V.May], g3, g2, by simp [V.write, g4]⟩
theorem read_zero {l : List UInt8} (h : (readV l).2 = 0) : (readV l).1 = V.zero := by
  unfold readV at h ⊢
  cases l with
  | nil => rfl
  | cons c r =>
    simp only at h ⊢
    by_cases h1 : c = 34
    · rw [if_pos h1] at h ⊢
      cases ht : txtF r 0 with
      | none => rfl
      | some p => rw [ht] at h; simp at h
    · rw [if_neg h1] at h ⊢
      by_cases h2 : (numberL (c :: r)).2 = 0
      · rw [if_pos h2]
      · rw [if_neg h2] at h; exact absurd h h2
theorem itoa_head (z : Int) : ∃ c l, itoa z = c :: l ∧ c ≠ 34 := by
  unfold itoa
  split
  · exact ⟨45, _, rfl, by decide⟩
  · cases h : decDigits z.toNat with
    | nil => exact absurd h (dec_ne _)
    | cons c l =>
      refine ⟨c, l, rfl, fun e => ?_⟩
      have := dec_digs z.toNat c (by rw [h]; simp)
      rw [e] at this
      simp [isDig] at this
/-- what is written is read as it was -/
theorem read_write (v : V) (hm : v.May) (hf : v.Fits) : readV v.write = (v, v.write.length) := by
  obtain ⟨num, n, s⟩ := v
  unfold V.May at hm
  cases num with
  | true =>
    simp only [if_true] at hm
    subst hm
    simp only [V.write, if_true]
    obtain ⟨c, l, e, hc⟩ := itoa_head n
    have hs := number_spec (itoa n)
    have hat : NumAt (itoa n) (itoa n).length n := ⟨by rw [e]; simp, Nat.le_refl _, hf, List.take_length⟩
    rcases hs with ⟨_, h⟩ | ⟨h1, h2⟩
    · exact absurd hat (h _ _)
    · have h3 := h2 _ _ hat
      have h4 := h1.2.1
      have h5 : (numberL (itoa n)).2 = (itoa n).length := by omega
      have h6 := h1.2.2.2
      rw [h5, List.take_length] at h6
      have h7 := itoa_inj h6
      have h8 : readV (itoa n) = if (numberL (itoa n)).2 = 0 then (V.zero, 0) else (⟨true, (numberL (itoa n)).1, []⟩, (numberL (itoa n)).2) := by
        conv => lhs; rw [e]
        unfold readV
        simp only
        rw [if_neg hc, e]
      rw [h8, h5, ← h7, if_neg (by rw [e]; simp)]
  | false =>
    simp only [Bool.false_eq_true, if_false] at hm
    obtain ⟨rfl, hs⟩ := hm
    simp only [V.write, Bool.false_eq_true, if_false]
    unfold readV wr
    simp only [if_true]
    rw [txtF_esc s 0 [] (by omega)]
    simp
theorem write_inj {a b : V} (ha : a.May) (hb : b.May) (fa : a.Fits) (fb : b.Fits) : a.write = b.write ↔ a = b := by
  refine ⟨fun h => ?_, fun h => by rw [h]⟩
  have h1 := read_write a ha fa
  have h2 := read_write b hb fb
  rw [h, h2] at h1
  exact (Prod.mk.inj h1).1.symm
theorem write_le (v : V) (hm : v.May) (hf : v.Fits) : v.write.length ≤ 200 := by
  unfold V.May at hm
  unfold V.write
  split
  · have := itoa_length_le v.n hf.1 hf.2; omega
  · rename_i hn
    rw [if_neg hn] at hm
    have := esc_length v.s
    simp [wr]; omega
/-! ### The reference's way to read -/
/-- a text up to the first " that has no \ ahead: what is gathered, where it ends, and whether there is one -/
def rscan : List UInt8 → List UInt8 × Nat × Bool
  | [] => ([], 0, false)
  | c :: l =>
    if c = 34 then ([], 0, true)
    else if c = 92 then
      match l with
      | [] => ([], 2, false)
      | d :: r => (d :: (rscan r).1, (rscan r).2.1 + 2, (rscan r).2.2)
    else (c :: (rscan l).1, (rscan l).2.1 + 1, (rscan l).2.2)
theorem rscan_quote (l : List UInt8) : rscan (34 :: l) = ([], 0, true) := by rw [rscan.eq_def]; simp
theorem rscan_bs (d : UInt8) (r : List UInt8) : rscan (92 :: d :: r) = (d :: (rscan r).1, (rscan r).2.1 + 2, (rscan r).2.2) := by rw [rscan.eq_def]; simp
theorem rscan_plain {c : UInt8} (h1 : c ≠ 34) (h2 : c ≠ 92) (l : List UInt8) : rscan (c :: l) = (c :: (rscan l).1, (rscan l).2.1 + 1, (rscan l).2.2) := by
  rw [rscan.eq_def]; simp only; rw [if_neg h1, if_neg h2]
theorem rscan_spec (k : Nat) : ∀ (l : List UInt8) (n : Nat), l.length ≤ k → n ≤ 60 →
    ((rscan l).2.2 = true → (rscan l).2.1 < l.length ∧ txtF l n = if esc (rscan l).1 ++ [34] = l.take ((rscan l).2.1 + 1) ∧ n + (rscan l).1.length ≤ 60 then some ((rscan l).1, (rscan l).2.1 + 1) else none) ∧
    ((rscan l).2.2 = false → l.length ≤ (rscan l).2.1 ∧ txtF l n = none) := by
  induction k with
  | zero =>
    intro l n hl hn
    have : l = [] := List.eq_nil_of_length_eq_zero (by omega)
    subst this
    simp [rscan, txtF]
  | succ k ih =>
    intro l n hl hn
    cases l with
    | nil => simp [rscan, txtF]
    | cons c l =>
      by_cases h1 : c = 34
      · subst h1
        rw [rscan_quote, txtF_quote]
        refine ⟨fun _ => ⟨by simp, ?_⟩, fun h => by cases h⟩
        rw [if_pos ⟨by simp [esc], by simp; omega⟩]
      by_cases h2 : c = 92
      · subst h2
        cases l with
        | nil => simp [rscan, txtF]
        | cons d r =>
          have hr := ih r (n + 1) (by simp at hl; omega)
          have e : rscan (92 :: d :: r) = (d :: (rscan r).1, (rscan r).2.1 + 2, (rscan r).2.2) := rscan_bs d r
          have et : txtF (92 :: d :: r) n = if d = 34 ∨ d = 92 then (if n = 60 then none else (txtF r (n + 1)).map fun p => (d :: p.1, p.2 + 2)) else none := txtF_bs d r n
          rw [e, et]
          simp only [List.length_cons]
          have tk : ∀ q, (92 :: d :: r).take (q + 2 + 1) = 92 :: d :: r.take (q + 1) := fun q => by
            rw [show q + 2 + 1 = q + 1 + 1 + 1 by omega, List.take_succ_cons, List.take_succ_cons]
          by_cases h3 : d = 34 ∨ d = 92
          · have ed : esc (d :: (rscan r).1) = 92 :: d :: esc (rscan r).1 := by rw [esc_cons]; simp [esc1, h3]
            rw [if_pos h3]
            by_cases h4 : n = 60
            · rw [if_pos h4]
              refine ⟨fun hq => ?_, fun hq => ?_⟩
              · obtain ⟨g1, _⟩ := (ih r n (by simp at hl; omega) hn).1 hq
                refine ⟨by omega, ?_⟩
                rw [if_neg (fun h => by have := h.2; omega)]
              · obtain ⟨g1, _⟩ := (ih r n (by simp at hl; omega) hn).2 hq
                exact ⟨by omega, rfl⟩
            · rw [if_neg h4]
              obtain ⟨g1, g2⟩ := hr (by omega)
              refine ⟨fun hq => ?_, fun hq => ?_⟩
              · obtain ⟨q1, q2⟩ := g1 hq
                refine ⟨by omega, ?_⟩
                rw [q2, tk, ed]
                by_cases hc : esc (rscan r).1 ++ [34] = r.take ((rscan r).2.1 + 1) ∧ n + 1 + (rscan r).1.length ≤ 60
                · rw [if_pos hc, if_pos ⟨by rw [List.cons_append, List.cons_append, hc.1], by omega⟩]
                  simp
                · rw [if_neg hc, if_neg (fun h => hc ⟨by simpa using h.1, by omega⟩)]
                  rfl
              · obtain ⟨q1, q2⟩ := g2 hq
                refine ⟨by omega, ?_⟩
                rw [q2]; rfl
          · have ed : esc (d :: (rscan r).1) = d :: esc (rscan r).1 := by rw [esc_cons]; simp [esc1, h3]
            rw [if_neg h3]
            refine ⟨fun hq => ?_, fun hq => ?_⟩
            · obtain ⟨g1, _⟩ := (ih r n (by simp at hl; omega) hn).1 hq
              refine ⟨by omega, ?_⟩
              rw [if_neg]
              intro h
              have h5 := h.1
              rw [tk, ed, List.cons_append] at h5
              exact h3 (.inr (List.cons.inj h5).1)
            · obtain ⟨g1, _⟩ := (ih r n (by simp at hl; omega) hn).2 hq
              exact ⟨by omega, rfl⟩
      · have e : rscan (c :: l) = (c :: (rscan l).1, (rscan l).2.1 + 1, (rscan l).2.2) := rscan_plain h1 h2 l
        have et : txtF (c :: l) n = if n = 60 then none else (txtF l (n + 1)).map fun p => (c :: p.1, p.2 + 1) := txtF_plain h1 h2 l n
        rw [e, et]
        simp only [List.length_cons]
        have ed : esc (c :: (rscan l).1) = c :: esc (rscan l).1 := by rw [esc_cons]; simp [esc1, h1, h2]
        by_cases h4 : n = 60
        · rw [if_pos h4]
          refine ⟨fun hq => ?_, fun hq => ?_⟩
          · obtain ⟨g1, _⟩ := (ih l n (by simp at hl; omega) hn).1 hq
            refine ⟨by omega, ?_⟩
            rw [if_neg (fun h => by have := h.2; omega)]
          · obtain ⟨g1, _⟩ := (ih l n (by simp at hl; omega) hn).2 hq
            exact ⟨by omega, rfl⟩
        · rw [if_neg h4]
          obtain ⟨g1, g2⟩ := ih l (n + 1) (by simp at hl; omega) (by omega)
          refine ⟨fun hq => ?_, fun hq => ?_⟩
          · obtain ⟨q1, q2⟩ := g1 hq
            refine ⟨by omega, ?_⟩
            rw [q2, ed, List.take_succ_cons]
            by_cases hc : esc (rscan l).1 ++ [34] = l.take ((rscan l).2.1 + 1) ∧ n + 1 + (rscan l).1.length ≤ 60
            · have hc' : c :: esc (rscan l).1 ++ [34] = c :: l.take ((rscan l).2.1 + 1) ∧ n + ((rscan l).1.length + 1) ≤ 60 := ⟨by rw [List.cons_append, hc.1], by omega⟩
              rw [if_pos hc, if_pos hc']
              rfl
            · have hc' : ¬ (c :: esc (rscan l).1 ++ [34] = c :: l.take ((rscan l).2.1 + 1) ∧ n + ((rscan l).1.length + 1) ≤ 60) := fun h => hc ⟨by simpa using h.1, by omega⟩
              rw [if_neg hc, if_neg hc']
              rfl
          · obtain ⟨q1, q2⟩ := g2 hq
            refine ⟨by omega, ?_⟩
            rw [q2]; rfl
end Tryst
namespace Tryst
open Go Go.Lib
/-- the reference's digits: what is left of the number, and what was written -/
def DigRel (n m : Int) (l : List UInt8) : Prop :=
  m.natAbs ≤ n.natAbs ∧ (0 ≤ n → 0 ≤ m) ∧ (n < 0 → m ≤ 0) ∧ ((l = [] ∧ m = n) ∨ (l ≠ [] ∧ decDigits n.natAbs = (if m = 0 then [] else decDigits m.natAbs) ++ l))
theorem DigRel.start (n : Int) : DigRel n n [] := ⟨Nat.le_refl _, fun h => h, fun h => by omega, .inl ⟨rfl, rfl⟩⟩
theorem DigRel.step {n m : Int} {l : List UInt8} (h : DigRel n m l) (hm : m ≠ 0 ∨ l = []) : DigRel n (m.tdiv 10) (UInt8.ofNat (48 + m.natAbs % 10) :: l) := by
  obtain ⟨h1, h2, h3, h4⟩ := h
  have ha : (m.tdiv 10).natAbs = m.natAbs / 10 := by
    rw [Int.natAbs_tdiv]; rfl
  refine ⟨by omega, fun h => Int.tdiv_nonneg (h2 h) (by decide), fun h => ?_, .inr ⟨by simp, ?_⟩⟩
  · have := h3 h
    have e : m = -((m.natAbs : Nat) : Int) := by omega
    rw [e, Int.neg_tdiv]
    have : 0 ≤ ((m.natAbs : Nat) : Int).tdiv 10 := Int.tdiv_nonneg (by omega) (by decide)
    omega
  · have hz : (m.tdiv 10 = 0) ↔ m.natAbs < 10 := by rw [← Int.natAbs_eq_zero, ha]; omega
    have key : decDigits m.natAbs = (if m.tdiv 10 = 0 then [] else decDigits (m.tdiv 10).natAbs) ++ [UInt8.ofNat (48 + m.natAbs % 10)] := by
      by_cases h10 : m.natAbs < 10
      · rw [if_pos (hz.2 h10), decDigits_one h10, Nat.mod_eq_of_lt h10]; rfl
      · rw [if_neg (fun h => h10 (hz.1 h)), ha]
        conv => lhs; unfold decDigits
        rw [dif_neg h10]
    rcases h4 with ⟨rfl, rfl⟩ | ⟨hl, h5⟩
    · exact key
    · have hm0 : m ≠ 0 := hm.resolve_right hl
      rw [if_neg hm0, key] at h5
      rw [h5, List.append_assoc]; rfl
theorem DigRel.done {n : Int} {l : List UInt8} (h : DigRel n 0 l) (hl : l ≠ []) : decDigits n.natAbs = l := by
  obtain ⟨_, _, _, h4⟩ := h
  rcases h4 with ⟨h5, _⟩ | ⟨_, h5⟩
  · exact absurd h5 hl
  · simpa using h5
theorem DigRel.len {n m : Int} {l : List UInt8} (h : DigRel n m l) (h0 : -9223372036854775808 ≤ n) (h1 : n ≤ 9223372036854775807) : l.length ≤ 100 := by
  obtain ⟨_, _, _, h4⟩ := h
  rcases h4 with ⟨rfl, _⟩ | ⟨_, h5⟩
  · simp
  · have := congrArg List.length h5
    rw [List.length_append] at this
    have h6 := itoa_length_le n h0 h1
    unfold itoa at h6
    split at h6
    · simp at h6; omega
    · have e : n.toNat = n.natAbs := by omega
      rw [e] at h6; omega
end Tryst
