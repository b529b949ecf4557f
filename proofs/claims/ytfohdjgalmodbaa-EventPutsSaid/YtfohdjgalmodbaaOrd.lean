/- Plain facts on the order of texts, and of values; nothing of the program. -/
import Derived.Lib.Bytealg
import Derived.Test.YtfohdjgalmodbaaValP
set_option linter.unusedVariables false
set_option linter.unusedSimpArgs false
namespace Tryst
open Go Go.Lib
theorem cmp_neg : ∀ (a b : List UInt8), compareBytes a b = - compareBytes b a
  | [], [] => rfl
  | [], _ :: _ => rfl
  | _ :: _, [] => rfl
  | a :: as, b :: bs => by
    have ih := cmp_neg as bs
    unfold compareBytes
    by_cases h1 : a < b
    · have h2 : ¬ b < a := by simp only [UInt8.lt_iff_toNat_lt] at *; omega
      simp [h1, h2]
    · by_cases h2 : b < a
      · simp [h1, h2]
      · simp [h1, h2, ih]
theorem cmp_zero : ∀ (a b : List UInt8), compareBytes a b = 0 ↔ a = b
  | [], [] => by simp [compareBytes]
  | [], _ :: _ => by simp [compareBytes]
  | _ :: _, [] => by simp [compareBytes]
  | a :: as, b :: bs => by
    have ih := cmp_zero as bs
    unfold compareBytes
    by_cases h1 : a < b
    · have : a ≠ b := fun e => by subst e; simp only [UInt8.lt_iff_toNat_lt] at h1; omega
      simp [h1, this]
    · by_cases h2 : b < a
      · have : a ≠ b := fun e => by subst e; simp only [UInt8.lt_iff_toNat_lt] at h2; omega
        simp [h1, h2, this]
      · have : a = b := UInt8.toNat.inj (by simp only [UInt8.lt_iff_toNat_lt] at *; omega)
        simp [h1, h2, this, ih]
theorem cmp_cases (a b : List UInt8) : compareBytes a b = -1 ∨ compareBytes a b = 0 ∨ compareBytes a b = 1 := by
  induction a generalizing b with
  | nil => cases b <;> simp [compareBytes]
  | cons a as ih =>
    cases b with
    | nil => simp [compareBytes]
    | cons b bs =>
      unfold compareBytes
      split
      · simp
      · split
        · simp
        · exact ih bs
theorem cmp_less : ∀ (a b : List UInt8), Op.bytesLess a b = decide (compareBytes a b < 0)
  | [], [] => rfl
  | [], _ :: _ => rfl
  | _ :: _, [] => rfl
  | a :: as, b :: bs => by
    have ih := cmp_less as bs
    unfold compareBytes Op.bytesLess
    by_cases h1 : a < b
    · simp [h1]
    · by_cases h2 : b < a
      · have : a ≠ b := fun e => by subst e; simp only [UInt8.lt_iff_toNat_lt] at h2; omega
        simp [h1, h2, this]
      · have : a = b := UInt8.toNat.inj (by simp only [UInt8.lt_iff_toNat_lt] at *; omega)
        subst this
        simp [h1, ih]
theorem cmp_cons (a b : UInt8) (as bs : List UInt8) : compareBytes (a :: as) (b :: bs) = if a.toNat < b.toNat then -1 else if b.toNat < a.toNat then 1 else compareBytes as bs := by
  rw [compareBytes]; simp only [UInt8.lt_iff_toNat_lt]
theorem cmp_trans : ∀ (a b c : List UInt8), compareBytes a b ≤ 0 → compareBytes b c ≤ 0 → compareBytes a c ≤ 0
  | [], _, [] => by simp [compareBytes]
  | [], _, _ :: _ => by simp [compareBytes]
  | _ :: _, [], _ => by simp [compareBytes]
  | a :: as, b :: bs, [] => by simp [compareBytes]
  | a :: as, b :: bs, c :: cs => by
    intro h1 h2
    have ih := cmp_trans as bs cs
    rw [cmp_cons] at h1 h2 ⊢
    by_cases x1 : a.toNat < b.toNat
    · by_cases x2 : b.toNat < c.toNat
      · rw [if_pos (by omega)]; decide
      · rw [if_neg x2] at h2
        by_cases x3 : c.toNat < b.toNat
        · rw [if_pos x3] at h2; exact absurd h2 (by decide)
        · rw [if_pos (by omega)]; decide
    · rw [if_neg x1] at h1
      by_cases x2 : b.toNat < a.toNat
      · rw [if_pos x2] at h1; exact absurd h1 (by decide)
      · rw [if_neg x2] at h1
        by_cases x3 : b.toNat < c.toNat
        · rw [if_pos (by omega)]; decide
        · rw [if_neg x3] at h2
          by_cases x4 : c.toNat < b.toNat
          · rw [if_pos x4] at h2; exact absurd h2 (by decide)
          · rw [if_neg x4] at h2
            rw [if_neg (by omega), if_neg (by omega)]
            exact ih h1 h2
theorem less_irrefl (a : List UInt8) : Op.bytesLess a a = false := by
  rw [cmp_less, (cmp_zero a a).2 rfl]; rfl
theorem less_trans {a b c : List UInt8} (h1 : Op.bytesLess a b = true) (h2 : Op.bytesLess b c = true) : Op.bytesLess a c = true := by
  rw [cmp_less] at *
  simp only [decide_eq_true_eq] at *
  have h3 := cmp_trans a b c (by omega) (by omega)
  rcases Int.lt_or_eq_of_le h3 with h | h
  · exact h
  · have e := (cmp_zero a c).1 h
    subst e
    have := cmp_neg a b
    omega
theorem less_asymm {a b : List UInt8} (h1 : Op.bytesLess a b = true) : Op.bytesLess b a = false := by
  rw [cmp_less] at *
  simp only [decide_eq_true_eq, decide_eq_false_iff_not] at *
  have := cmp_neg a b
  omega
theorem less_total (a b : List UInt8) : Op.bytesLess a b = true ∨ a = b ∨ Op.bytesLess b a = true := by
  rw [cmp_less, cmp_less]
  simp only [decide_eq_true_eq]
  have h := cmp_neg a b
  rcases cmp_cases a b with h1 | h1 | h1
  · left; omega
  · right; left; exact (cmp_zero a b).1 h1
  · right; right; omega
/-- which value is first -/
def V.order (a b : V) : Int :=
  if a.num then (if b.num then (if a.n < b.n then -1 else if b.n < a.n then 1 else 0) else -1)
  else if b.num then 1 else compareBytes a.s b.s
theorem order_neg (a b : V) : a.order b = - b.order a := by
  unfold V.order
  cases a.num <;> cases b.num <;> simp
  · exact cmp_neg _ _
  · split <;> split <;> first | omega | (split <;> omega) | rfl
theorem order_trans (a b c : V) (h1 : a.order b ≤ 0) (h2 : b.order c ≤ 0) : a.order c ≤ 0 := by
  unfold V.order at *
  cases ha : a.num <;> cases hb : b.num <;> cases hc : c.num <;> simp only [ha, hb, hc, if_true, if_false, Bool.false_eq_true] at h1 h2 ⊢
  all_goals first | omega | exact cmp_trans _ _ _ h1 h2 | (exfalso; omega) | skip
  all_goals
    repeat' (first | (split at h1) | (split at h2) | split)
    all_goals omega
theorem order_zero {a b : V} (ha : a.May) (hb : b.May) : a.order b = 0 ↔ a = b := by
  obtain ⟨x, n, s⟩ := a
  obtain ⟨y, m, t⟩ := b
  unfold V.May at ha hb
  unfold V.order
  cases x <;> cases y <;> simp only [if_true, if_false, Bool.false_eq_true] at ha hb ⊢
  · rw [cmp_zero]; simp [ha.1, hb.1]
  · simp
  · simp
  · subst ha; subst hb
    simp only [V.mk.injEq, and_true, true_and]
    split
    · constructor <;> intro h <;> omega
    · split <;> constructor <;> intro h <;> omega
end Tryst
