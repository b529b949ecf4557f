/- Plain facts on values' written form; nothing of the program. -/
import Derived.Lib.ItoaNum
import Derived.Test.YtfohdjgalmodbaaValP
set_option linter.unusedVariables false
set_option linter.unusedSimpArgs false
namespace Tryst
open Go Go.Lib
def isDig (c : UInt8) : Bool := 48 ≤ c.toNat && c.toNat ≤ 57
/-- the number of digits -/
def dvalL : List UInt8 → Nat → Nat
  | [], n => n
  | c :: l, n => dvalL l (n * 10 + (c.toNat - 48))
def dval (n : Nat) (l : List UInt8) : Nat := dvalL l n
theorem dval_nil (n : Nat) : dval n [] = n := by unfold dval dvalL; rfl
theorem dval_cons (n : Nat) (c : UInt8) (l : List UInt8) : dval n (c :: l) = dval (n * 10 + (c.toNat - 48)) l := by unfold dval; rw [dvalL]
theorem dval_append (l r : List UInt8) : ∀ n, dval n (l ++ r) = dval (dval n l) r := by
  induction l with
  | nil => intro n; rw [List.nil_append, dval_nil]
  | cons c l ih => intro n; rw [List.cons_append, dval_cons, dval_cons, ih]
theorem dval_le (l : List UInt8) : ∀ n, n ≤ dval n l := by
  induction l with
  | nil => intro n; rw [dval_nil]; exact Nat.le_refl _
  | cons c l ih => intro n; rw [dval_cons]; exact Nat.le_trans (by omega) (ih _)
theorem ofNat_toNat {n : Nat} (h : n < 256) : (UInt8.ofNat n).toNat = n := by simp; omega
theorem dec_dval (u : Nat) : dval 0 (decDigits u) = u := by
  induction u using Nat.strongRecOn with
  | _ u ih =>
    unfold decDigits
    split
    · simp only [dval_cons, dval_nil, ofNat_toNat (show 48 + u < 256 by omega)]
      omega
    · rw [dval_append, ih (u / 10) (by omega)]
      simp only [dval_cons, dval_nil, ofNat_toNat (show 48 + u % 10 < 256 by omega)]
      omega
theorem dec_digs (u : Nat) : ∀ c ∈ decDigits u, isDig c = true := by
  induction u using Nat.strongRecOn with
  | _ u ih =>
    unfold decDigits
    split
    · intro c hc
      simp at hc; subst hc
      simp [isDig]; omega
    · intro c hc
      rcases List.mem_append.1 hc with h | h
      · exact ih (u / 10) (by omega) c h
      · simp at h; subst h; simp [isDig]; omega
theorem dec_ne (u : Nat) : decDigits u ≠ [] := by
  unfold decDigits; split <;> simp
/-- the first digit is no 0, but of 0 -/
theorem dec_head (u : Nat) : 0 < u → ∃ c l, decDigits u = c :: l ∧ 49 ≤ c.toNat ∧ c.toNat ≤ 57 := by
  induction u using Nat.strongRecOn with
  | _ u ih =>
    intro hu
    unfold decDigits
    split
    · refine ⟨_, _, rfl, ?_, ?_⟩ <;> simp <;> omega
    · obtain ⟨c, l, e, h1, h2⟩ := ih (u / 10) (by omega) (by omega)
      rw [e]
      exact ⟨c, _, rfl, h1, h2⟩
theorem dec_zero : decDigits 0 = [48] := by rw [decDigits_one (by decide)]; rfl
/-- digits that begin with no 0 are their number's -/
theorem dec_of_digs (l : List UInt8) : ∀ (hl : l ≠ []), (∀ c ∈ l, isDig c = true) → (∀ c r, l = c :: r → c.toNat = 48 → r = []) → decDigits (dval 0 l) = l := by
  have key : ∀ (n : Nat) (l : List UInt8), l.length = n → l ≠ [] → (∀ c ∈ l, isDig c = true) → (∀ c r, l = c :: r → c.toNat = 48 → r = []) → decDigits (dval 0 l) = l := by
    intro n
    induction n with
    | zero => intro l hn hl; exact absurd (List.eq_nil_of_length_eq_zero hn) hl
    | succ n ih =>
      intro l hn hl hd h0
      obtain ⟨i, c, rfl⟩ : ∃ i c, l = i ++ [c] := ⟨_, _, (List.dropLast_concat_getLast hl).symm⟩
      have hc : isDig c = true := hd c (by simp)
      simp only [isDig, Bool.and_eq_true, decide_eq_true_eq] at hc
      cases hi : i with
      | nil =>
        simp only [List.nil_append, dval_cons, dval_nil]
        rw [decDigits_one (by omega)]
        congr 1
        apply UInt8.toNat.inj
        rw [ofNat_toNat (by omega)]; omega
      | cons b j =>
        have hne : i ≠ [] := by rw [hi]; simp
        have hb0 : b.toNat ≠ 48 := fun hb => by
          have := h0 b (j ++ [c]) (by rw [hi]; rfl) hb
          simp at this
        have hbd : isDig b = true := hd b (by rw [hi]; simp)
        simp only [isDig, Bool.and_eq_true, decide_eq_true_eq] at hbd
        have e := ih i (by simp at hn; omega) hne (fun x hx => hd x (by simp [hx])) (fun x r hx hx0 => by
          rw [hi] at hx
          simp only [List.cons.injEq] at hx
          exact absurd (hx.1 ▸ hx0) hb0)
        rw [← hi, dval_append]
        have hpos : 1 ≤ dval 0 i := by
          rw [hi]
          simp only [dval_cons, dval_nil]
          exact Nat.le_trans (by omega) (dval_le j _)
        simp only [dval_cons, dval_nil]
        unfold decDigits
        rw [dif_neg (by omega)]
        have e1 : (dval 0 i * 10 + (c.toNat - 48)) / 10 = dval 0 i := by omega
        have e2 : 48 + (dval 0 i * 10 + (c.toNat - 48)) % 10 = c.toNat := by omega
        rw [e1, e2, e, UInt8.ofNat_toNat]
  intro hl hd h0
  exact key l.length l rfl hl hd h0
theorem itoa_inj {a b : Int} (h : itoa a = itoa b) : a = b := by
  unfold itoa at h
  have nd : ∀ u r, decDigits u ≠ 45 :: r := fun u r e => by
    have := dec_digs u 45 (by rw [e]; simp)
    simp [isDig] at this
  split at h <;> split at h
  · have := congrArg (dval 0) (List.cons.inj h).2
    rw [dec_dval, dec_dval] at this
    omega
  · exact absurd h.symm (nd _ _)
  · exact absurd h (nd _ _)
  · have := congrArg (dval 0) h
    rw [dec_dval, dec_dval] at this
    omega
theorem itoa_ne (z : Int) : itoa z ≠ [] := by
  unfold itoa; split
  · simp
  · exact dec_ne _
def In64 (z : Int) : Prop := -9223372036854775808 ≤ z ∧ z ≤ 9223372036854775807
/-- a text's first k octets are the digits of z -/
def NumAt (l : List UInt8) (k : Nat) (z : Int) : Prop := 1 ≤ k ∧ k ≤ l.length ∧ In64 z ∧ l.take k = itoa z
/-- as many digits as are no more than so many -/
def scan (most : Nat) : Nat → List UInt8 → Nat × Nat
  | n, [] => (n, 0)
  | n, c :: l =>
    if isDig c ∧ ¬ (most - (c.toNat - 48)) / 10 < n then ((scan most (n * 10 + (c.toNat - 48)) l).1, (scan most (n * 10 + (c.toNat - 48)) l).2 + 1) else (n, 0)
theorem scan_spec (most : Nat) (hm : 10 ≤ most) (l : List UInt8) : ∀ n, n ≤ most →
    (scan most n l).2 ≤ l.length ∧ (scan most n l).1 = dval n (l.take (scan most n l).2) ∧ (scan most n l).1 ≤ most ∧ (∀ c ∈ l.take (scan most n l).2, isDig c = true) ∧
    (∀ j, j ≤ l.length → (∀ c ∈ l.take j, isDig c = true) → dval n (l.take j) ≤ most → j ≤ (scan most n l).2) := by
  induction l with
  | nil => intro n hn; simp [scan, dval_cons, dval_nil]; omega
  | cons c l ih =>
    intro n hn
    unfold scan
    by_cases h : isDig c ∧ ¬ (most - (c.toNat - 48)) / 10 < n
    · rw [if_pos h]
      have hc : isDig c = true := h.1
      simp only [isDig, Bool.and_eq_true, decide_eq_true_eq] at hc
      obtain ⟨h1, h2, h3, h4, h5⟩ := ih (n * 10 + (c.toNat - 48)) (by omega)
      refine ⟨by simp; exact h1, ?_, h3, ?_, ?_⟩
      · simp only [List.take_succ_cons, dval_cons, dval_nil]; exact h2
      · intro x hx
        simp only [List.take_succ_cons] at hx
        rcases List.mem_cons.1 hx with rfl | hx
        · exact h.1
        · exact h4 x hx
      · intro j hj hd hv
        cases j with
        | zero => omega
        | succ j =>
          simp only [List.take_succ_cons, dval_cons, dval_nil] at hd hv
          have := h5 j (by simpa using hj) (fun x hx => hd x (by simp [hx])) hv
          simp only; omega
    · rw [if_neg h]
      refine ⟨by simp, by simp [dval_cons, dval_nil], hn, by simp, ?_⟩
      intro j hj hd hv
      cases j with
      | zero => omega
      | succ j =>
        exfalso
        simp only [List.take_succ_cons] at hd hv
        have hc0 := hd c (by simp)
        refine h ⟨hc0, ?_⟩
        have hc := hc0
        simp only [isDig, Bool.and_eq_true, decide_eq_true_eq] at hc
        simp only [dval_cons, dval_nil] at hv
        have := dval_le (l.take j) (n * 10 + (c.toNat - 48))
        omega
/-- the number with which a text begins, and how many octets; 0: there is none -/
def numberL (l : List UInt8) : Int × Nat :=
  match l with
  | [] => (0, 0)
  | c :: r =>
    if c.toNat = 45 then
      match r with
      | [] => (0, 0)
      | d :: _ => if ¬ isDig d ∨ d.toNat = 48 then (0, 0) else (-((scan 9223372036854775808 0 r).1 : Int), (scan 9223372036854775808 0 r).2 + 1)
    else if ¬ isDig c then (0, 0)
    else if c.toNat = 48 then (0, 1)
    else ((scan 9223372036854775807 0 l).1, (scan 9223372036854775807 0 l).2)
theorem take_cons_of {l : List UInt8} {c : UInt8} {r : List UInt8} {k : Nat} (h : (c :: l).take k = c :: r) : l.take (k - 1) = r ∧ 1 ≤ k := by
  cases k with
  | zero => simp at h
  | succ k => simp at h; exact ⟨by simpa using h, by omega⟩
/-- what 'number' answers -/
theorem number_spec (l : List UInt8) : (numberL l = (0, 0) ∧ ∀ j z, ¬ NumAt l j z) ∨ (NumAt l (numberL l).2 (numberL l).1 ∧ ∀ j z, NumAt l j z → j ≤ (numberL l).2) := by
  cases l with
  | nil => exact .inl ⟨rfl, fun j z h => by have h1 := h.1; have h2 := h.2.1; simp at h2; omega⟩
  | cons c r =>
    have hdig : ∀ j z, NumAt (c :: r) j z → c.toNat ≠ 45 → 0 ≤ z ∧ (c :: r).take j = decDigits z.toNat := fun j z h hc => by
      have e := h.2.2.2
      unfold itoa at e
      split at e
      · obtain ⟨j, rfl⟩ : ∃ i, j = i + 1 := ⟨j - 1, by have := h.1; omega⟩
        simp only [List.take_succ_cons, List.cons.injEq] at e
        exact absurd (by rw [e.1]; rfl) hc
      · exact ⟨by omega, e⟩
    unfold numberL
    by_cases h45 : c.toNat = 45
    · simp only [h45, if_true]
      have hc : c = 45 := UInt8.toNat.inj (by rw [h45]; rfl)
      have neg : ∀ j z, NumAt (c :: r) j z → z < 0 ∧ r.take (j - 1) = decDigits z.natAbs ∧ 2 ≤ j := fun j z h => by
        have e := h.2.2.2
        unfold itoa at e
        split at e
        · rename_i hz
          have e' := take_cons_of (by rw [e, hc])
          refine ⟨hz, e'.1, ?_⟩
          have h1 := e'.2
          by_cases hj : j = 1
          · subst hj
            exact absurd e'.1.symm (by simpa using dec_ne _)
          · omega
        · exfalso
          have h1 := dec_digs z.toNat
          rw [← e] at h1
          obtain ⟨j, rfl⟩ : ∃ i, j = i + 1 := ⟨j - 1, by have := h.1; omega⟩
          have := h1 c (by simp)
          simp [isDig, h45] at this
      cases r with
      | nil =>
        refine .inl ⟨rfl, fun j z h => ?_⟩
        have h2 := (neg j z h).2.1
        rw [List.take_nil] at h2
        exact dec_ne _ h2.symm
      | cons d r =>
        simp only
        by_cases hd : ¬ isDig d ∨ d.toNat = 48
        · rw [if_pos hd]
          refine .inl ⟨rfl, fun j z h => ?_⟩
          obtain ⟨hz, e, hj⟩ := neg j z h
          obtain ⟨x, t, ex, hx1, hx2⟩ := dec_head z.natAbs (by omega)
          obtain ⟨i, rfl⟩ : ∃ i, j = i + 2 := ⟨j - 2, by omega⟩
          rw [ex, show i + 2 - 1 = i + 1 by omega, List.take_succ_cons] at e
          have : d = x := (List.cons.inj e).1
          subst this
          rcases hd with hd | hd
          · simp [isDig] at hd; omega
          · omega
        · rw [if_neg hd]
          have hd1 : isDig d = true := by
            by_cases h : isDig d = true
            · exact h
            · exact absurd (.inl h) hd
          have hd2 : d.toNat ≠ 48 := fun h => hd (.inr h)
          obtain ⟨s1, s2, s3, s4, s5⟩ := scan_spec 9223372036854775808 (by decide) (d :: r) 0 (by decide)
          generalize hp : scan 9223372036854775808 0 (d :: r) = p at *
          have hp1 : 1 ≤ p.2 := s5 1 (by simp) (by simpa using hd1) (by
            simp only [List.take_succ_cons, List.take_zero, dval_cons, dval_nil]
            have := hd1
            simp only [isDig, Bool.and_eq_true, decide_eq_true_eq] at this
            omega)
          have hdv : dval 0 ((d :: r).take p.2) = p.1 := s2.symm
          obtain ⟨q, hq⟩ : ∃ q, p.2 = q + 1 := ⟨p.2 - 1, by omega⟩
          have hpos : 1 ≤ p.1 := by
            rw [← hdv, hq]
            simp only [List.take_succ_cons, dval_cons, dval_nil]
            have := hd1
            simp only [isDig, Bool.and_eq_true, decide_eq_true_eq] at this
            exact Nat.le_trans (by omega) (dval_le _ _)
          have hdec : decDigits p.1 = (d :: r).take p.2 := by
            rw [← hdv]
            refine dec_of_digs _ (by rw [hq]; simp) s4 fun x t hx hx0 => ?_
            rw [hq, List.take_succ_cons] at hx
            exact absurd ((List.cons.inj hx).1 ▸ hx0) hd2
          refine .inr ⟨⟨by simp, by simpa using s1, ⟨by omega, by omega⟩, ?_⟩, ?_⟩
          · simp only [List.take_succ_cons]
            unfold itoa
            rw [if_pos (by omega), hc]
            congr 1
            rw [show (-(p.1 : Int)).natAbs = p.1 by omega, hdec]
          · intro j z h
            obtain ⟨hz, e, hj⟩ := neg j z h
            have hjl := h.2.1
            have := s5 (j - 1) (by simp at hjl ⊢; omega) (by rw [e]; exact dec_digs _) (by
              rw [e, dec_dval]
              have := h.2.2.1.1
              omega)
            simp only; omega
    · simp only
      rw [if_neg h45]
      by_cases hd : ¬ isDig c
      · rw [if_pos hd]
        refine .inl ⟨rfl, fun j z h => ?_⟩
        obtain ⟨_, e⟩ := hdig j z h h45
        have h1 := dec_digs z.toNat
        rw [← e] at h1
        obtain ⟨j, rfl⟩ : ∃ i, j = i + 1 := ⟨j - 1, by have := h.1; omega⟩
        exact hd (h1 c (by simp))
      · rw [if_neg hd]
        have hd1 : isDig c = true := by
          by_cases h : isDig c = true
          · exact h
          · exact absurd h hd
        by_cases h48 : c.toNat = 48
        · rw [if_pos h48]
          have hc : c = 48 := UInt8.toNat.inj (by rw [h48]; rfl)
          refine .inr ⟨⟨by simp, by simp, ⟨by decide, by decide⟩, ?_⟩, ?_⟩
          · simp only [List.take_succ_cons, List.take_zero]
            unfold itoa
            rw [if_neg (by decide), hc]
            exact dec_zero.symm
          · intro j z h
            obtain ⟨hz, e⟩ := hdig j z h h45
            by_cases hz0 : z = 0
            · subst hz0
              have := congrArg List.length e
              rw [show (0 : Int).toNat = 0 from rfl, dec_zero] at this
              have h2 := h.2.1
              simp at this h2
              simp only; omega
            · obtain ⟨x, t, ex, hx1, hx2⟩ := dec_head z.toNat (by omega)
              obtain ⟨j, rfl⟩ : ∃ i, j = i + 1 := ⟨j - 1, by have := h.1; omega⟩
              rw [ex, List.take_succ_cons] at e
              have := (List.cons.inj e).1
              subst this
              omega
        · rw [if_neg h48]
          obtain ⟨s1, s2, s3, s4, s5⟩ := scan_spec 9223372036854775807 (by decide) (c :: r) 0 (by decide)
          generalize hp : scan 9223372036854775807 0 (c :: r) = p at *
          have hp1 : 1 ≤ p.2 := s5 1 (by simp) (by simpa using hd1) (by
            simp only [List.take_succ_cons, List.take_zero, dval_cons, dval_nil]
            have := hd1
            simp only [isDig, Bool.and_eq_true, decide_eq_true_eq] at this
            omega)
          have hdv : dval 0 ((c :: r).take p.2) = p.1 := s2.symm
          obtain ⟨q, hq⟩ : ∃ q, p.2 = q + 1 := ⟨p.2 - 1, by omega⟩
          have hdec : decDigits p.1 = (c :: r).take p.2 := by
            rw [← hdv]
            refine dec_of_digs _ (by rw [hq]; simp) s4 fun x t hx hx0 => ?_
            rw [hq, List.take_succ_cons] at hx
            exact absurd ((List.cons.inj hx).1 ▸ hx0) h48
          refine .inr ⟨⟨hp1, s1, ⟨by omega, by omega⟩, ?_⟩, ?_⟩
          · unfold itoa
            rw [if_neg (by omega)]
            simp only [Int.toNat_natCast, hdec]
          · intro j z h
            obtain ⟨hz, e⟩ := hdig j z h h45
            exact s5 j h.2.1 (by rw [e]; exact dec_digs _) (by
              rw [e, dec_dval]
              have := h.2.2.1.2
              omega)
end Tryst
