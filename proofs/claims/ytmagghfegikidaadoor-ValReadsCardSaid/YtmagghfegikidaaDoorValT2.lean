/- Plain facts on the loop that reads a text; nothing of the program. -/
import Derived.Test.YtmagghfegikidaaDoorValT
set_option linter.unusedVariables false
set_option linter.unusedSimpArgs false
namespace Tryst
open Go Go.Lib
/-- val.text's loop: at octet k, with t gathered -/
def TxtRel (l : List UInt8) (k : Nat) (t : List UInt8) : Prop :=
  1 ≤ k ∧ t.length ≤ 60 ∧ txtF (l.drop 1) 0 = (txtF (l.drop k) t.length).map fun p => (t ++ p.1, p.2 + (k - 1))
theorem TxtRel.start (l : List UInt8) : TxtRel l 1 [] := by
  refine ⟨by omega, by simp, ?_⟩
  cases txtF (l.drop 1) 0 <;> simp
theorem TxtRel.quote {l : List UInt8} {k : Nat} {t : List UInt8} (h : TxtRel l k t) (hk : k < l.length) (hc : l[k] = 34) : txtF (l.drop 1) 0 = some (t, k) := by
  obtain ⟨h1, h2, h3⟩ := h
  rw [h3, List.drop_eq_getElem_cons hk, hc, txtF_quote]
  simp; omega
theorem TxtRel.stop {l : List UInt8} {k : Nat} {t : List UInt8} (h : TxtRel l k t) (hk : l.length ≤ k) : txtF (l.drop 1) 0 = none := by
  rw [h.2.2, List.drop_eq_nil_of_le hk]; rfl
theorem TxtRel.escEnd {l : List UInt8} {k : Nat} {t : List UInt8} (h : TxtRel l k t) (hk : k < l.length) (hc : l[k] = 92) (he : l.length ≤ k + 1) : txtF (l.drop 1) 0 = none := by
  rw [h.2.2, List.drop_eq_getElem_cons hk, hc, List.drop_eq_nil_of_le he, txtF.eq_def]; simp
theorem TxtRel.escBad {l : List UInt8} {k : Nat} {t : List UInt8} (h : TxtRel l k t) (hk : k + 1 < l.length) (hc : l[k] = 92) (hd : ¬ (l[k + 1] = 34 ∨ l[k + 1] = 92)) : txtF (l.drop 1) 0 = none := by
  rw [h.2.2, List.drop_eq_getElem_cons (by omega), hc, List.drop_eq_getElem_cons hk, txtF_bs, if_neg hd]; rfl
theorem TxtRel.escFull {l : List UInt8} {k : Nat} {t : List UInt8} (h : TxtRel l k t) (hk : k + 1 < l.length) (hc : l[k] = 92) (ht : t.length = 60) : txtF (l.drop 1) 0 = none := by
  rw [h.2.2, List.drop_eq_getElem_cons (by omega), hc, List.drop_eq_getElem_cons hk, txtF_bs]
  by_cases hd : l[k + 1] = 34 ∨ l[k + 1] = 92
  · rw [if_pos hd, if_pos ht]; rfl
  · rw [if_neg hd]; rfl
theorem TxtRel.esc {l : List UInt8} {k : Nat} {t : List UInt8} (h : TxtRel l k t) (hk : k + 1 < l.length) (hc : l[k] = 92) (hd : l[k + 1] = 34 ∨ l[k + 1] = 92) (ht : t.length ≠ 60) : TxtRel l (k + 2) (t ++ [l[k + 1]]) := by
  obtain ⟨h1, h2, h3⟩ := h
  refine ⟨by omega, by simp; omega, ?_⟩
  rw [h3, List.drop_eq_getElem_cons (by omega), hc, List.drop_eq_getElem_cons hk, txtF_bs, if_pos hd, if_neg ht, List.length_append]
  simp only [List.length_cons, List.length_nil, Nat.zero_add]
  cases txtF (l.drop (k + 1 + 1)) (t.length + 1) with
  | none => rfl
  | some p => simp; omega
theorem TxtRel.plainFull {l : List UInt8} {k : Nat} {t : List UInt8} (h : TxtRel l k t) (hk : k < l.length) (hc : l[k] ≠ 34) (hc2 : l[k] ≠ 92) (ht : t.length = 60) : txtF (l.drop 1) 0 = none := by
  rw [h.2.2, List.drop_eq_getElem_cons hk, txtF_plain hc hc2, if_pos ht]; rfl
theorem TxtRel.plain {l : List UInt8} {k : Nat} {t : List UInt8} (h : TxtRel l k t) (hk : k < l.length) (hc : l[k] ≠ 34) (hc2 : l[k] ≠ 92) (ht : t.length ≠ 60) : TxtRel l (k + 1) (t ++ [l[k]]) := by
  obtain ⟨h1, h2, h3⟩ := h
  refine ⟨by omega, by simp; omega, ?_⟩
  rw [h3, List.drop_eq_getElem_cons hk, txtF_plain hc hc2, if_neg ht, List.length_append]
  simp only [List.length_cons, List.length_nil, Nat.zero_add]
  cases txtF (l.drop (k + 1)) (t.length + 1) with
  | none => rfl
  | some p => simp; omega
end Tryst
namespace Tryst
open Go Go.Lib
/-- is there a digit at a place? -/
def digAt (l : List UInt8) (i : Nat) : Bool := match l[i]? with | some c => isDig c | none => false
theorem digAt_lt {l : List UInt8} {i : Nat} (h : digAt l i = true) : ∃ h : i < l.length, isDig l[i] = true := by
  unfold digAt at h
  by_cases hi : i < l.length
  · rw [List.getElem?_eq_getElem hi] at h; exact ⟨hi, h⟩
  · rw [List.getElem?_eq_none (by omega)] at h; cases h
/-- number's loop: from place i0 on, now at i, with n -/
def ScanRel (most : Nat) (l : List UInt8) (i0 i n : Nat) : Prop :=
  i0 ≤ i ∧ i ≤ l.length ∧ n ≤ most ∧ (scan most 0 (l.drop i0)).1 = (scan most n (l.drop i)).1 ∧ (scan most 0 (l.drop i0)).2 = (scan most n (l.drop i)).2 + (i - i0)
theorem ScanRel.start (most : Nat) (l : List UInt8) (i0 : Nat) (h : i0 ≤ l.length) : ScanRel most l i0 i0 0 := ⟨Nat.le_refl _, h, by omega, rfl, by omega⟩
theorem ScanRel.done {most : Nat} {l : List UInt8} {i0 i n : Nat} (h : ScanRel most l i0 i n) (hd : digAt l i = false) : scan most 0 (l.drop i0) = (n, i - i0) := by
  obtain ⟨_, h2, _, h4, h5⟩ := h
  have e : scan most n (l.drop i) = (n, 0) := by
    by_cases hi : i < l.length
    · rw [List.drop_eq_getElem_cons hi, scan, if_neg]
      unfold digAt at hd
      rw [List.getElem?_eq_getElem hi] at hd
      simp at hd
      simp [hd]
    · rw [List.drop_eq_nil_of_le (by omega), scan]
  rw [e] at h4 h5
  exact Prod.ext h4 (by rw [h5]; simp)
theorem ScanRel.over {most : Nat} {l : List UInt8} {i0 i n : Nat} (h : ScanRel most l i0 i n) (hi : i < l.length) (ho : (most - (l[i].toNat - 48)) / 10 < n) : scan most 0 (l.drop i0) = (n, i - i0) := by
  obtain ⟨_, h2, _, h4, h5⟩ := h
  have e : scan most n (l.drop i) = (n, 0) := by
    rw [List.drop_eq_getElem_cons hi, scan, if_neg (fun h => h.2 ho)]
  rw [e] at h4 h5
  exact Prod.ext h4 (by rw [h5]; simp)
theorem ScanRel.step {most : Nat} {l : List UInt8} {i0 i n : Nat} (hm : 10 ≤ most) (h : ScanRel most l i0 i n) (hi : i < l.length) (hd : isDig l[i] = true) (ho : ¬ (most - (l[i].toNat - 48)) / 10 < n) :
    ScanRel most l i0 (i + 1) (n * 10 + (l[i].toNat - 48)) := by
  obtain ⟨h1, h2, h3, h4, h5⟩ := h
  have hd' := hd
  simp only [isDig, Bool.and_eq_true, decide_eq_true_eq] at hd'
  have e : scan most n (l.drop i) = ((scan most (n * 10 + (l[i].toNat - 48)) (l.drop (i + 1))).1, (scan most (n * 10 + (l[i].toNat - 48)) (l.drop (i + 1))).2 + 1) := by
    rw [List.drop_eq_getElem_cons hi, scan, if_pos ⟨hd, ho⟩]
  rw [e] at h4 h5
  exact ⟨by omega, by omega, by omega, h4, by rw [h5]; simp only; omega⟩
end Tryst
