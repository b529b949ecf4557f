/- Plain facts: what strings.Cut and strings.Contains say of the dot; nothing of the program. -/
import Derived.Lib.IndexMore
import Derived.Lib.Bytealg
import Derived.Test.YtfohdjgalmodbaaEvP
set_option linter.unusedVariables false
set_option linter.unusedSimpArgs false
namespace Tryst
open Go Go.Lib
theorem index_dot (l : List UInt8) : (46 ∉ l ∧ Lib.index l [46] = -1) ∨ (∃ p r, l = p ++ 46 :: r ∧ 46 ∉ p ∧ Lib.index l [46] = p.length) := by
  induction l with
  | nil => exact .inl ⟨by simp, rfl⟩
  | cons b l ih =>
    by_cases hb : b = 46
    · subst hb
      refine .inr ⟨[], l, rfl, by simp, ?_⟩
      unfold Lib.index
      simp
    · have h1 : ([46] : List UInt8).isPrefixOf (b :: l) = false := by
        simp [List.isPrefixOf]
        exact fun h => hb h.symm
      rcases ih with ⟨h, e⟩ | ⟨p, r, e1, e2, e3⟩
      · refine .inl ⟨by simp; exact ⟨fun h => hb h.symm, h⟩, ?_⟩
        unfold Lib.index
        rw [h1, e]; rfl
      · refine .inr ⟨b :: p, r, by rw [e1]; rfl, by simp; exact ⟨fun h => hb h.symm, e2⟩, ?_⟩
        unfold Lib.index
        rw [h1, e3]
        have : ((p.length : Int) == -1) = false := by simp
        rw [this]
        simp
theorem cut_dot (l : List UInt8) : (46 ∉ l ∧ Lib.cut l [46] = (l, [], false)) ∨ (∃ p r, l = p ++ 46 :: r ∧ 46 ∉ p ∧ Lib.cut l [46] = (p, r, true)) := by
  rcases index_dot l with ⟨h, e⟩ | ⟨p, r, e1, e2, e3⟩
  · refine .inl ⟨h, ?_⟩
    unfold Lib.cut
    rw [e]; rfl
  · refine .inr ⟨p, r, e1, e2, ?_⟩
    unfold Lib.cut
    rw [e3, if_pos (by omega)]
    subst e1
    simp
theorem byte_dot (l : List UInt8) : decide (0 ≤ Lib.indexByte l 46) = l.contains 46 := by
  have h : (46 ∉ l ∧ Lib.indexByte l 46 = -1) ∨ (46 ∈ l ∧ 0 ≤ Lib.indexByte l 46) := by
    induction l with
    | nil => exact .inl ⟨by simp, rfl⟩
    | cons b l ih =>
      by_cases hb : b = 46
      · subst hb
        exact .inr ⟨by simp, by unfold Lib.indexByte; simp⟩
      · have h1 : (b == 46) = false := by simpa using hb
        rcases ih with ⟨h, e⟩ | ⟨h, e⟩
        · refine .inl ⟨by simp; exact ⟨fun h => hb h.symm, h⟩, ?_⟩
          unfold Lib.indexByte
          rw [h1, e]; rfl
        · refine .inr ⟨by simp [h], ?_⟩
          unfold Lib.indexByte
          rw [h1]
          have : (Lib.indexByte l 46 == -1) = false := by simp; omega
          rw [this]
          simp; omega
  rcases h with ⟨h, e⟩ | ⟨h, e⟩
  · rw [e]; simp [h]
  · rw [decide_eq_true e]; simp [h]
end Tryst
