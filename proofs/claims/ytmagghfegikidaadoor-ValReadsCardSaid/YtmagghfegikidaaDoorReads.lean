/- The walk of ValReads: what the program reads of a text is what the document reads. -/
import Derived.Test.YtmagghfegikidaaDoorProg
import Derived.WalkKit
import Derived.WalkSpells
import Derived.WalkLawsBesides
import Derived.Lib.Hide
import Derived.Deep.RegionWith
import Derived.Test.YtmagghfegikidaaDoorTakes
import Derived.Test.YtmagghfegikidaaDoorRRead
set_option linter.unusedVariables false
set_option linter.unusedSimpArgs false
namespace Go.Proofs.YtmagghfegikidaaDoor
open Go.RowKit Tryst
set_option maxHeartbeats 1000000
set_option maxRecDepth 20000
theorem valReads_c (s : ByteArray) (hs : s.size ≤ 9223372036854775807) (w : World) (hT : Tab w) : Calls Tryd.prog 3 #[.string s] w fun e w' => e = .returned (.bool true) ∧ Below w.heap.size w w' := by
  have HT := Lib.hid hT
  clear hT
  by_cases h : 150 < s.size
  · have hz : (s.extract 0 150).size ≤ 1000000 := by simp; omega
    obtain ⟨p, hp⟩ : ∃ p, readV (s.extract 0 150).data.toList = p := ⟨_, rfl⟩
    have h1 := read_c (s.extract 0 150) hz
    have h2 := rread_c (s.extract 0 150) hz
    rw [hp] at h1 h2
    obtain ⟨⟨pn, pi, ps⟩, pk⟩ := p
    clear hp
    by_cases hk : pk = 0
    · rw [show readE pk = 2 by rw [hk]; rfl] at h1
      rw [show decide (pk ≠ 0) = false by rw [hk]; rfl] at h2
      have H1 := Lib.hid h1
      have H2 := Lib.hid h2
      clear h1 h2 hk
      go_enter Tryd.func3, Tryd.ntmps3
      go_wp2_with fail
      refine (H1.out _).mono ?_
      rintro e w1 ⟨rfl, hb1⟩
      go_wp2_with fail
      refine (H2.out _).mono ?_
      rintro e w2 ⟨rfl, hb2⟩
      obtain ⟨hc2, hf2⟩ := bcell hb2
      have hz2 : w1.heap.size < w2.heap.size := (by have := hb2.size; simp at this; omega)
      have hB : Below w.heap.size w (w2.alloc (.cells #[.bool pn, .int .i64 pi, .string ⟨ps.toArray⟩] 23)) := by
        (repeat (first | exact Below.refl _ _ | assumption | refine bdrew ?_ | refine balloc _ ?_ | refine bset _ (by simp) ?_ | refine bstep (by assumption) ?_ | refine Grow.below (by assumption) ?_ | refine Tryst2.Grow.below (by assumption) ?_))
      have HT1 := Lib.hid (HT.out.grow hB)
      go_wp2_with fail
      refine (awake_c _ HT1.out).mono ?_
      rintro e w3 ⟨rfl, hb3⟩
      go_wp2_with fail
      go_ret
      exact ⟨rfl, bstep hb3 hB⟩
    · rw [readE_pos hk] at h1
      rw [show decide (pk ≠ 0) = true from decide_eq_true hk] at h2
      have H1 := Lib.hid h1
      have H2 := Lib.hid h2
      clear h1 h2 hk
      go_enter Tryd.func3, Tryd.ntmps3
      go_wp2_with fail
      refine (H1.out _).mono ?_
      rintro e w1 ⟨rfl, hb1⟩
      go_wp2_with fail
      refine (H2.out _).mono ?_
      rintro e w2 ⟨rfl, hb2⟩
      obtain ⟨hc2, hf2⟩ := bcell hb2
      have hz2 : w1.heap.size < w2.heap.size := (by have := hb2.size; simp at this; omega)
      have hB : Below w.heap.size w (w2.alloc (.cells #[.bool pn, .int .i64 pi, .string ⟨ps.toArray⟩] 23)) := by
        (repeat (first | exact Below.refl _ _ | assumption | refine bdrew ?_ | refine balloc _ ?_ | refine bset _ (by simp) ?_ | refine bstep (by assumption) ?_ | refine Grow.below (by assumption) ?_ | refine Tryst2.Grow.below (by assumption) ?_))
      have HT1 := Lib.hid (HT.out.grow hB)
      go_wp2_with fail
      refine (awake_c _ HT1.out).mono ?_
      rintro e w3 ⟨rfl, hb3⟩
      go_wp2_with fail
      go_ret
      exact ⟨rfl, bstep hb3 hB⟩
  · have hz : s.size ≤ 1000000 := by omega
    obtain ⟨p, hp⟩ : ∃ p, readV s.data.toList = p := ⟨_, rfl⟩
    have h1 := read_c s hz
    have h2 := rread_c s hz
    rw [hp] at h1 h2
    obtain ⟨⟨pn, pi, ps⟩, pk⟩ := p
    clear hp
    by_cases hk : pk = 0
    · rw [show readE pk = 2 by rw [hk]; rfl] at h1
      rw [show decide (pk ≠ 0) = false by rw [hk]; rfl] at h2
      have H1 := Lib.hid h1
      have H2 := Lib.hid h2
      clear h1 h2 hk
      go_enter Tryd.func3, Tryd.ntmps3
      go_wp2_with fail
      refine (H1.out _).mono ?_
      rintro e w1 ⟨rfl, hb1⟩
      go_wp2_with fail
      refine (H2.out _).mono ?_
      rintro e w2 ⟨rfl, hb2⟩
      obtain ⟨hc2, hf2⟩ := bcell hb2
      have hz2 : w1.heap.size < w2.heap.size := (by have := hb2.size; simp at this; omega)
      have hB : Below w.heap.size w (w2.alloc (.cells #[.bool pn, .int .i64 pi, .string ⟨ps.toArray⟩] 23)) := by
        (repeat (first | exact Below.refl _ _ | assumption | refine bdrew ?_ | refine balloc _ ?_ | refine bset _ (by simp) ?_ | refine bstep (by assumption) ?_ | refine Grow.below (by assumption) ?_ | refine Tryst2.Grow.below (by assumption) ?_))
      have HT1 := Lib.hid (HT.out.grow hB)
      go_wp2_with fail
      refine (awake_c _ HT1.out).mono ?_
      rintro e w3 ⟨rfl, hb3⟩
      go_wp2_with fail
      go_ret
      exact ⟨rfl, bstep hb3 hB⟩
    · rw [readE_pos hk] at h1
      rw [show decide (pk ≠ 0) = true from decide_eq_true hk] at h2
      have H1 := Lib.hid h1
      have H2 := Lib.hid h2
      clear h1 h2 hk
      go_enter Tryd.func3, Tryd.ntmps3
      go_wp2_with fail
      refine (H1.out _).mono ?_
      rintro e w1 ⟨rfl, hb1⟩
      go_wp2_with fail
      refine (H2.out _).mono ?_
      rintro e w2 ⟨rfl, hb2⟩
      obtain ⟨hc2, hf2⟩ := bcell hb2
      have hz2 : w1.heap.size < w2.heap.size := (by have := hb2.size; simp at this; omega)
      have hB : Below w.heap.size w (w2.alloc (.cells #[.bool pn, .int .i64 pi, .string ⟨ps.toArray⟩] 23)) := by
        (repeat (first | exact Below.refl _ _ | assumption | refine bdrew ?_ | refine balloc _ ?_ | refine bset _ (by simp) ?_ | refine bstep (by assumption) ?_ | refine Grow.below (by assumption) ?_ | refine Tryst2.Grow.below (by assumption) ?_))
      have HT1 := Lib.hid (HT.out.grow hB)
      go_wp2_with fail
      refine (awake_c _ HT1.out).mono ?_
      rintro e w3 ⟨rfl, hb3⟩
      go_wp2_with fail
      go_ret
      exact ⟨rfl, bstep hb3 hB⟩
end Go.Proofs.YtmagghfegikidaaDoor
