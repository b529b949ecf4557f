/- Plain facts on values: their octets, their written form, their order; nothing of the program. -/
import Derived.Lib.ItoaNum
import Derived.Lib.Strings
import Derived.Test.YtfohdjgalmodbaaPlain
set_option linter.unusedVariables false
set_option linter.unusedSimpArgs false
namespace Tryst
open Go
/-- a value: a number, or a text -/
structure V where
  num : Bool
  n : Int
  s : List UInt8
theorem V.ext' {a b : V} (h1 : a.num = b.num) (h2 : a.n = b.n) (h3 : a.s = b.s) : a = b := by
  cases a; cases b; simp_all
def V.zero : V := ⟨false, 0, []⟩
def V.May (v : V) : Prop := if v.num then v.s = [] else v.n = 0 ∧ v.s.length ≤ 60
instance (v : V) : Decidable v.May := by unfold V.May; exact inferInstance
/-- its number is one of 64 bits -/
def V.Fits (v : V) : Prop := -9223372036854775808 ≤ v.n ∧ v.n ≤ 9223372036854775807
/-- its octets -/
def V.lay (v : V) : List UInt8 := if v.num then 1 :: pack (fold v.n) else 2 :: (pack v.s.length ++ v.s)
/-- the value with which octets begin, how many, and the error -/
def takeV (l : List UInt8) : V × Nat × Nat :=
  match l with
  | [] => (V.zero, 0, 3)
  | c :: r =>
    if c ≠ 1 ∧ c ≠ 2 then (V.zero, 0, 2)
    else if (unp r).2.2 ≠ 0 then (V.zero, 0, (unp r).2.2)
    else if c = 1 then (⟨true, unfold_ (unp r).1, []⟩, (unp r).2.1 + 1, 0)
    else if 60 < (unp r).1 then (V.zero, 0, 2)
    else if l.length < (unp r).2.1 + 1 + (unp r).1 then (V.zero, 0, 3)
    else (⟨false, 0, (l.take ((unp r).2.1 + 1 + (unp r).1)).drop ((unp r).2.1 + 1)⟩, (unp r).2.1 + 1 + (unp r).1, 0)
theorem take_lay (v : V) (hm : v.May) (hf : v.Fits) (t : List UInt8) : takeV (v.lay ++ t) = (v, v.lay.length, 0) := by
  obtain ⟨num, n, s⟩ := v
  unfold V.May at hm
  unfold V.Fits at hf
  unfold V.lay takeV
  cases num with
  | true =>
    simp only [if_true] at hm ⊢
    subst hm
    simp only [List.cons_append]
    have hlt : fold n < 2 ^ 64 := fold_lt (by simpa using hf.1) (by have := hf.2; simp at this; omega)
    rw [unp_pack _ hlt, if_neg (by simp)]
    simp [unfold_fold]
  | false =>
    simp only [Bool.false_eq_true, if_false] at hm ⊢
    obtain ⟨rfl, hs⟩ := hm
    simp only [List.cons_append, List.append_assoc]
    have hlt : s.length < 2 ^ 64 := by omega
    rw [unp_pack _ hlt, if_neg (by simp)]
    simp only [ne_eq, not_true, if_false]
    rw [if_neg (by decide), if_neg (by omega), if_neg (by simp; omega)]
    have e : (2 :: (pack s.length ++ (s ++ t))).take ((pack s.length).length + 1 + s.length) = 2 :: (pack s.length ++ s) := by
      rw [show (pack s.length).length + 1 + s.length = ((pack s.length).length + s.length) + 1 by omega, List.take_succ_cons, ← List.append_assoc, ← List.length_append, List.take_left]
    rw [e, List.drop_succ_cons, List.drop_left]
    simp; omega
theorem take_ok {l : List UInt8} {v : V} {k : Nat} (h : takeV l = (v, k, 0)) : v.May ∧ v.Fits ∧ 0 < k ∧ k ≤ l.length ∧ l.take k = v.lay := by
  unfold takeV at h
  cases l with
  | nil => simp at h
  | cons c r =>
    simp only at h
    by_cases h1 : c ≠ 1 ∧ c ≠ 2
    · rw [if_pos h1] at h; simp at h
    rw [if_neg h1] at h
    by_cases h2 : (unp r).2.2 ≠ 0
    · rw [if_pos h2] at h; simp at h; omega
    rw [if_neg h2] at h
    have hu : unp r = ((unp r).1, (unp r).2.1, 0) := by
      have : (unp r).2.2 = 0 := by omega
      rw [← this]
    obtain ⟨g1, g2, g3, g4, g5⟩ := unp_ok hu
    by_cases h3 : c = 1
    · rw [if_pos h3] at h
      simp only [Prod.mk.injEq, and_true] at h
      obtain ⟨rfl, rfl⟩ := h
      refine ⟨by simp [V.May], ?_, by omega, by simp; omega, ?_⟩
      · unfold V.Fits unfold_
        simp only
        split <;> omega
      · rw [List.take_succ_cons, g5, h3]
        simp [V.lay, fold_unfold]
    · rw [if_neg h3] at h
      have hc2 : c = 2 := by
        by_cases hc : c = 2
        · exact hc
        · exact absurd ⟨h3, hc⟩ h1
      by_cases h4 : 60 < (unp r).1
      · rw [if_pos h4] at h; simp at h
      rw [if_neg h4] at h
      by_cases h5 : (c :: r).length < (unp r).2.1 + 1 + (unp r).1
      · rw [if_pos h5] at h; simp at h
      rw [if_neg h5] at h
      simp only [Prod.mk.injEq, and_true] at h
      obtain ⟨rfl, rfl⟩ := h
      simp only [List.length_cons] at h5
      have e : (c :: r).take ((unp r).2.1 + 1 + (unp r).1) = c :: r.take ((unp r).2.1 + (unp r).1) := by
        rw [show (unp r).2.1 + 1 + (unp r).1 = (unp r).2.1 + (unp r).1 + 1 by omega, List.take_succ_cons]
      have e2 : (r.take ((unp r).2.1 + (unp r).1)).drop (unp r).2.1 = (r.drop (unp r).2.1).take (unp r).1 := by
        rw [List.drop_take]; congr 1; omega
      have hlen : ((r.drop (unp r).2.1).take (unp r).1).length = (unp r).1 := by simp; omega
      refine ⟨?_, by simp [V.Fits], by omega, by simp; omega, ?_⟩
      · simp only [V.May, Bool.false_eq_true, if_false, true_and]
        rw [e, List.drop_succ_cons, e2, hlen]; omega
      · rw [e]
        simp only [V.lay, Bool.false_eq_true, if_false]
        rw [List.drop_succ_cons, e2, hlen, hc2, ← g5, List.take_add]
theorem take_err (l : List UInt8) : (takeV l).2.2 = 0 ∨ ((takeV l).1 = V.zero ∧ (takeV l).2.1 = 0) := by
  unfold takeV
  cases l with
  | nil => simp
  | cons c r => simp only; repeat' split
                all_goals simp
/-- an octet less is too little -/
theorem take_short (v : V) (hm : v.May) (j : Nat) (hj : j < v.lay.length) : takeV (v.lay.take j) = (V.zero, 0, 3) := by
  obtain ⟨num, n, s⟩ := v
  unfold V.May at hm
  cases j with
  | zero => simp [takeV]
  | succ j =>
    unfold V.lay at hj ⊢
    cases num with
    | true =>
      simp only [if_true] at hj ⊢
      simp only [List.take_succ_cons]
      unfold takeV
      simp only
      rw [unp_short _ _ (by simpa using hj)]
      simp
    | false =>
      simp only [Bool.false_eq_true, if_false] at hm hj ⊢
      obtain ⟨rfl, hs⟩ := hm
      simp only [List.take_succ_cons]
      unfold takeV
      simp only
      by_cases h : j < (pack s.length).length
      · have e : (pack s.length ++ s).take j = (pack s.length).take j := List.take_append_of_le_length (by omega)
        rw [e, unp_short _ _ h]
        simp
      · have e : (pack s.length ++ s).take j = pack s.length ++ s.take (j - (pack s.length).length) := by
          rw [List.take_append, List.take_of_length_le (by omega)]
        rw [e, unp_pack _ (by omega)]
        simp only [List.length_cons, List.length_append] at hj
        rw [if_neg (by simp), if_neg (by simp), if_neg (by decide), if_neg (by simp; omega), if_pos (by simp; omega)]
theorem lay_pos (v : V) : 0 < v.lay.length := by unfold V.lay; split <;> simp
theorem lay_le (v : V) (hm : v.May) : v.lay.length ≤ 71 := by
  unfold V.lay
  unfold V.May at hm
  have h1 := packF_length 9 (fold v.n)
  have h2 := packF_length 9 v.s.length
  split
  · simp [pack]; omega
  · rename_i hn
    rw [if_neg hn] at hm
    simp [pack]; omega
/-- no one's octets begin with another one's -/
theorem lay_prefix {a b : V} (ha : a.May) (hb : b.May) (fa : a.Fits) (fb : b.Fits) (t : List UInt8) (h : b.lay = a.lay ++ t) : a = b := by
  have h1 := take_lay a ha fa t
  have h2 := take_lay b hb fb []
  rw [List.append_nil, h, h1] at h2
  exact (Prod.mk.inj h2).1
theorem lay_inj {a b : V} (ha : a.May) (hb : b.May) (fa : a.Fits) (fb : b.Fits) : a.lay = b.lay ↔ a = b :=
  ⟨fun h => lay_prefix ha hb fa fb [] (by rw [List.append_nil, h]), fun h => by rw [h]⟩
end Tryst
