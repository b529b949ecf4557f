/- The walks of values: which may be, which is first. -/
import Derived.Test.YtfohdjgalmodbaaProg
import Derived.WalkKit
import Derived.WalkSpells
import Derived.WalkLawsBesides
import Derived.Lib.Hide
import Derived.Deep.RegionWith
import Derived.Test.YtfohdjgalmodbaaFacts
import Derived.Test.YtfohdjgalmodbaaNum
import Derived.Test.YtfohdjgalmodbaaShelf
set_option linter.unusedVariables false
set_option linter.unusedSimpArgs false
namespace Go.Proofs.Ytfohdjgalmodbaa
open Go.RowKit Tryst
set_option maxHeartbeats 400000
set_option maxRecDepth 20000
def V.mayB (v : V) : Bool := decide v.May
theorem mayB_num (n : Int) (l : List UInt8) : V.mayB ⟨true, n, l⟩ = l.isEmpty := by
  unfold V.mayB V.May; cases l <;> simp
theorem mayB_text (n : Int) (l : List UInt8) : V.mayB ⟨false, n, l⟩ = (decide (n = 0) && decide (l.length ≤ 60)) := by
  unfold V.mayB V.May; simp
theorem may_c (num : Bool) (n : Int) (s : ByteArray) (hs : s.size ≤ 1000000000) (w : World) :
    Calls Try.prog 31 #[.agg #[.bool num, .int .i64 n, .string s]] w fun e w' => e = .returned (.bool (V.mayB ⟨num, n, s.data.toList⟩)) ∧ Below w.heap.size w w' := by
  cases num with
  | true =>
    go_enter Try.func31, Try.ntmps31
    go_wp2
    go_ret
    exact ⟨ret_bool (by rw [mayB_num, ← str_toList]), balloc _ (.refl _ _)⟩
  | false =>
    by_cases h : n = 0
    · subst h
      go_enter Try.func31, Try.ntmps31
      go_wp2
      go_ret
      exact ⟨ret_bool (by rw [mayB_text, len_str]; simp; omega), balloc _ (.refl _ _)⟩
    · have hb : (n == 0) = false := by simpa using h
      have H := Lib.hid h
      clear h
      go_enter Try.func31, Try.ntmps31
      go_wp2
      go_ret
      exact ⟨ret_bool (by rw [mayB_text]; have := H.out; simp [this]), balloc _ (.refl _ _)⟩
theorem rmay_c (num : Bool) (n : Int) (s : ByteArray) (hs : s.size ≤ 1000000000) (w : World) :
    Calls Try.prog 33 #[.agg #[.bool num, .int .i64 n, .string s]] w fun e w' => e = .returned (.bool (V.mayB ⟨num, n, s.data.toList⟩)) ∧ Below w.heap.size w w' := by
  cases num with
  | true =>
    by_cases h : s.data.toList = []
    · have hb : s.toList.isEmpty = true := by rw [str_toList]; simpa using h
      have H := Lib.hid h
      clear h
      go_enter Try.func33, Try.ntmps33
      go_wp2
      go_ret
      exact ⟨ret_bool (by rw [mayB_num]; have := H.out; cases h : s.data.toList <;> simp_all), balloc _ (.refl _ _)⟩
    · have hb : s.toList.isEmpty = false := by rw [str_toList]; simpa using h
      have H := Lib.hid h
      clear h
      go_enter Try.func33, Try.ntmps33
      go_wp2
      go_ret
      exact ⟨ret_bool (by rw [mayB_num]; have := H.out; cases h : s.data.toList <;> simp_all), balloc _ (.refl _ _)⟩
  | false =>
    by_cases h : n = 0
    · subst h
      go_enter Try.func33, Try.ntmps33
      go_wp2
      go_ret
      exact ⟨ret_bool (by rw [mayB_text, len_str]; simp; omega), balloc _ (.refl _ _)⟩
    · have hb : (n == 0) = false := by simpa using h
      have H := Lib.hid h
      clear h
      go_enter Try.func33, Try.ntmps33
      go_wp2
      go_ret
      exact ⟨ret_bool (by rw [mayB_text]; have := H.out; simp [this]), balloc _ (.refl _ _)⟩

theorem str_cases (s t : ByteArray) : (Op.bytesLess s.toList t.toList = true ∧ (s.toList == t.toList) = false ∧ Hid (Lib.compareBytes s.data.toList t.data.toList = -1)) ∨
    (Op.bytesLess s.toList t.toList = false ∧ (s.toList == t.toList) = true ∧ Hid (Lib.compareBytes s.data.toList t.data.toList = 0)) ∨
    (Op.bytesLess s.toList t.toList = false ∧ (s.toList == t.toList) = false ∧ Hid (Lib.compareBytes s.data.toList t.data.toList = 1)) := by
  have hl : Op.bytesLess s.toList t.toList = decide (Lib.compareBytes s.data.toList t.data.toList < 0) := by rw [str_toList, str_toList, cmp_less]
  have he : (s.toList == t.toList) = decide (Lib.compareBytes s.data.toList t.data.toList = 0) := by
    rw [str_toList, str_toList, Bool.eq_iff_iff]; simp [cmp_zero]
  rcases cmp_cases s.data.toList t.data.toList with h | h | h
  · exact .inl ⟨by rw [hl, h]; rfl, by rw [he, h]; rfl, h⟩
  · exact .inr (.inl ⟨by rw [hl, h]; rfl, by rw [he, h]; rfl, h⟩)
  · exact .inr (.inr ⟨by rw [hl, h]; rfl, by rw [he, h]; rfl, h⟩)
end Go.Proofs.Ytfohdjgalmodbaa
