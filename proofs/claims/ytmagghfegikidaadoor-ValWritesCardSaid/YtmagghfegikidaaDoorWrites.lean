/- The walk of ValWrites: what was read, written again, is what stood there. -/
import Derived.Test.YtmagghfegikidaaDoorProg
import Derived.WalkKit
import Derived.WalkSpells
import Derived.WalkLawsBesides
import Derived.Lib.Hide
import Derived.Deep.RegionWith
import Derived.Test.YtmagghfegikidaaDoorTakes
set_option linter.unusedVariables false
set_option linter.unusedSimpArgs false
namespace Go.Proofs.YtmagghfegikidaaDoor
open Go.RowKit Tryst
set_option maxHeartbeats 400000
set_option maxRecDepth 20000
theorem writes_facts {T : ByteArray} (hz : T.size ≤ 1000000) {x : Bool} {n : Int} {t : List UInt8} {k : Nat} (h : readV T.data.toList = (⟨x, n, t⟩, k)) (hk : k ≠ 0) :
    V.May ⟨x, n, (ByteArray.mk t.toArray).data.toList⟩ ∧ -9223372036854775808 ≤ n ∧ n ≤ 9223372036854775807 ∧ k ≤ T.size ∧ (ByteArray.mk t.toArray).size ≤ 1000000 ∧ (⟨(V.write ⟨x, n, (ByteArray.mk t.toArray).data.toList⟩).toArray⟩ : ByteArray) = T.extract 0 k := by
  obtain ⟨h1, h2, h3, h4⟩ := read_ok h hk
  rw [mk_str]
  have hs : t.length ≤ 60 := by
    unfold V.May at h1
    cases x <;> simp at h1
    · exact h1.2
    · simp [h1]
  refine ⟨h1, h2.1, h2.2, by simpa using h3, by simp [ByteArray.size]; omega, str_ext ?_⟩
  rw [mk_str, sub_str, List.drop_zero, h4]
theorem valWrites_z (s T : ByteArray) (hs : s.size ≤ 9223372036854775807) (hz : T.size ≤ 1000000) (hw : if 150 < s.size then s.extract 0 150 = T else s = T) (w : World) (hT : Tab w) : Calls Tryd.prog 5 #[.string s] w fun e w' => e = .returned (.bool true) ∧ Below w.heap.size w w' := by
  have HT := Lib.hid hT
  clear hT
  obtain ⟨p, hp⟩ : ∃ p, readV T.data.toList = p := ⟨_, rfl⟩
  have hr := read_c T hz
  rw [hp] at hr
  obtain ⟨⟨x, n, t⟩, k⟩ := p
  by_cases hk : k = 0
  · subst hk
    simp only [readE] at hr
    have HR := Lib.hid hr
    clear hr hp
    by_cases h : 150 < s.size
    all_goals
      first | rw [if_pos h] at hw | rw [if_neg h] at hw
      have HW := Lib.hid hw
      clear hw
      go_enter Tryd.func5, Tryd.ntmps5
      go_wp2_with fail
      rw [HW.out]
      refine (HR.out _).mono ?_
      rintro e w1 ⟨rfl, hb1⟩
      have hB : Below w.heap.size w (w1.alloc (.cells #[.bool x, .int .i64 n, .string ⟨t.toArray⟩] 23)) := by
        (repeat (first | exact Below.refl _ _ | assumption | refine bdrew ?_ | refine balloc _ ?_ | refine bset _ (by simp) ?_ | refine bstep (by assumption) ?_ | refine Grow.below (by assumption) ?_))
      have HT1 := Lib.hid (HT.out.grow hB)
      go_wp2_with fail
      refine (awake_c _ HT1.out).mono ?_
      rintro e w3 ⟨rfl, hb3⟩
      go_wp2_with fail
      go_ret
      exact ⟨rfl, bstep hb3 hB⟩
  · obtain ⟨f1, f2, f3, f4, f5, f6⟩ := writes_facts hz hp hk
    have b1 : ((k : Int) == 0) = false := by simpa using hk
    have hk1 : 1 ≤ k := by omega
    have hr2 : readE k = 0 := by unfold readE; simp [hk]
    rw [hr2] at hr
    have HR := Lib.hid hr
    have HM := Lib.hid (may_yes (by omega : (ByteArray.mk t.toArray).size ≤ 1000000000) f1)
    have HWr := Lib.hid (fun w => write_yes f5 f2 f3 f1 w)
    rw [f6] at HWr
    clear hr hp f1 f6 hk hr2
    by_cases h : 150 < s.size
    all_goals
      first | rw [if_pos h] at hw | rw [if_neg h] at hw
      have HW := Lib.hid hw
      clear hw
      go_enter Tryd.func5, Tryd.ntmps5
      go_wp2_with fail
      rw [HW.out]
      refine (HR.out _).mono ?_
      rintro e w1 ⟨rfl, hb1⟩
      have hB : Below w.heap.size w (w1.alloc (.cells #[.bool x, .int .i64 n, .string ⟨t.toArray⟩] 23)) := by
        (repeat (first | exact Below.refl _ _ | assumption | refine bdrew ?_ | refine balloc _ ?_ | refine bset _ (by simp) ?_ | refine bstep (by assumption) ?_ | refine Grow.below (by assumption) ?_))
      have HB := Lib.hid hB
      clear hB
      go_wp2_with fail
      refine (HM.out _).mono ?_
      rintro e w2 ⟨rfl, hb2⟩
      obtain ⟨hc2, hf2⟩ := bcell hb2
      have hz2 : w1.heap.size < w2.heap.size := (by have := hb2.size; (try simp at this); omega)
      have HB2 := Lib.hid (bstep hb2 HB.out)
      have HT2 := Lib.hid (HT.out.grow HB2.out)
      clear hb2 hb1
      go_wp2_with fail
      refine (HWr.out _ HT2.out).mono ?_
      rintro e w3 ⟨rfl, hb3⟩
      have HB3 := Lib.hid (bstep hb3 HB2.out)
      have HT3 := Lib.hid (HT.out.grow HB3.out)
      go_wp2_with fail
      refine (awake_c _ HT3.out).mono ?_
      rintro e w4 ⟨rfl, hb4⟩
      go_wp2_with fail
      go_ret
      exact ⟨rfl, bstep hb4 HB3.out⟩
theorem valWrites_c (s : ByteArray) (hs : s.size ≤ 9223372036854775807) (w : World) (hT : Tab w) : Calls Tryd.prog 5 #[.string s] w fun e w' => e = .returned (.bool true) ∧ Below w.heap.size w w' := by
  by_cases h : 150 < s.size
  · exact valWrites_z s (s.extract 0 150) hs (by simp; omega) (by rw [if_pos h]) w hT
  · exact valWrites_z s s hs (by omega) (by rw [if_neg h]) w hT
end Go.Proofs.YtmagghfegikidaaDoor
