/- ValTakes, walked; the chapter examples that each law asks. -/
import Derived.Test.YtmagghfegikidaaDoorProg
import Derived.WalkKit
import Derived.WalkSpells
import Derived.WalkLawsBesides
import Derived.Lib.Hide
import Derived.Deep.RegionWith
import Derived.Test.YtmagghfegikidaaDoorValT
import Derived.Test.YtmagghfegikidaaDoorVal1
import Derived.Test.YtmagghfegikidaaDoorVal2
import Derived.Test.YtmagghfegikidaaDoorVal4
import Derived.Test.YtmagghfegikidaaDoorVal5
import Derived.Test.YtmagghfegikidaaDoorVal6
import Derived.Test.YtmagghfegikidaaDoorVal7
import Derived.Test.YtmagghfegikidaaDoorVal8
import Derived.Test.YtmagghfegikidaaDoorCell
import Derived.Test.YtmagghfegikidaaDoorVal9
import Derived.Test.YtmagghfegikidaaDoorValT2
import Derived.Test.YtmagghfegikidaaDoorNum
import Derived.Test.YtmagghfegikidaaDoorShelf
import Derived.Test.YtmagghfegikidaaDoorDraw
set_option linter.unusedVariables false
set_option linter.unusedSimpArgs false
namespace Go.Proofs.YtmagghfegikidaaDoor
open Go.RowKit Tryst
set_option maxHeartbeats 400000
set_option maxRecDepth 20000
theorem ex_write1 : V.write ⟨true, -5, []⟩ = [45, 53] := by
  show Lib.itoa (-5) = _
  unfold Lib.itoa
  rw [if_pos (by decide), show (-5 : Int).natAbs = 5 from rfl, Lib.decDigits_one (by decide)]
  rfl
theorem ex_write2 : V.write ⟨false, 0, [97, 34, 98]⟩ = [34, 97, 92, 34, 98, 34] := by decide
theorem ex_lay : V.lay ⟨true, 1, []⟩ = [1, 2] := by decide
theorem ex_read : readV [48, 53] = (⟨true, 0, []⟩, 1) := by
  unfold readV numberL
  simp [isDig]
theorem awake_w1 (w : World) (hT : Tab w) : Calls Tryd.prog 15 #[.agg #[.bool true, .int .i64 (-5), .string ⟨#[]⟩]] w fun e w' => e = .returned (.tuple #[.string ⟨#[45, 53]⟩, .int .i64 0]) ∧ Below w.heap.size w w' := by
  have h := write_yes (x := true) (n := -5) (s := ⟨#[]⟩) (by decide) (by decide) (by decide) (by decide) w hT
  have e : V.write ⟨true, -5, (ByteArray.mk #[]).data.toList⟩ = [45, 53] := ex_write1
  rw [e] at h
  exact h
theorem awake_w2 (w : World) (hT : Tab w) : Calls Tryd.prog 15 #[.agg #[.bool false, .int .i64 0, .string ⟨#[97, 34, 98]⟩]] w fun e w' => e = .returned (.tuple #[.string ⟨#[34, 97, 92, 34, 98, 34]⟩, .int .i64 0]) ∧ Below w.heap.size w w' := by
  have h := write_yes (x := false) (n := 0) (s := ⟨#[97, 34, 98]⟩) (by decide) (by decide) (by decide) (by decide) w hT
  have e : V.write ⟨false, 0, (ByteArray.mk #[97, 34, 98]).data.toList⟩ = [34, 97, 92, 34, 98, 34] := ex_write2
  rw [e] at h
  exact h
theorem awake_l (w : World) : Calls Tryd.prog 14 #[.agg #[.bool true, .int .i64 1, .string ⟨#[]⟩]] w fun e w' => e = .returned (.tuple #[.string ⟨#[1, 2]⟩, .int .i64 0]) ∧ Below w.heap.size w w' := by
  have h := lay_yes (x := true) (n := 1) (s := ⟨#[]⟩) (by decide) (by decide) (by decide) (by decide) w
  have e : V.lay ⟨true, 1, (ByteArray.mk #[]).data.toList⟩ = [1, 2] := ex_lay
  rw [e] at h
  exact h
theorem awake_r (w : World) : Calls Tryd.prog 10 #[.string ⟨#[48, 53]⟩] w fun e w' => e = .returned (.tuple #[.agg #[.bool true, .int .i64 0, .string ⟨#[]⟩], .int .i64 1, .int .i64 0]) ∧ Below w.heap.size w w' := by
  have h := read_c ⟨#[48, 53]⟩ (by decide) w
  have e : readV (ByteArray.mk #[48, 53]).data.toList = (⟨true, 0, []⟩, 1) := ex_read
  rw [e] at h
  exact h
set_option maxHeartbeats 2000000 in
theorem awake_c (w : World) (hT : Tab w) : Calls Tryd.prog 12 #[] w fun e w' => e = .returned (.bool true) ∧ Below w.heap.size w w' := by
  have HT := Lib.hid hT
  clear hT
  go_enter Tryd.func12, Tryd.ntmps12
  go_wp2_with fail
  refine (awake_w1 _ HT.out).mono ?_
  rintro e w1 ⟨rfl, hb1⟩
  have HT1 := Lib.hid (HT.out.grow hb1)
  go_wp2_with fail
  refine (awake_w2 _ HT1.out).mono ?_
  rintro e w2 ⟨rfl, hb2⟩
  go_wp2_with fail
  refine (awake_l _).mono ?_
  rintro e w3 ⟨rfl, hb3⟩
  go_wp2_with fail
  refine (awake_r _).mono ?_
  rintro e w4 ⟨rfl, hb4⟩
  go_wp2_with fail
  go_ret
  refine ⟨rfl, ?_⟩
  (repeat (first | exact Below.refl _ _ | assumption | refine bdrew ?_ | refine balloc _ ?_ | refine bset _ (by simp) ?_ | refine bstep (by assumption) ?_ | refine Grow.below (by assumption) ?_ | refine Tryst2.Grow.below (by assumption) ?_))
theorem valTakes_c (s : ByteArray) (hs : s.size ≤ 9223372036854775807) (w : World) (hT : Tab w) : Calls Tryd.prog 7 #[.string s] w fun e w' => e = .returned (.bool true) ∧ Below w.heap.size w w' := by
  have HT := Lib.hid hT
  clear hT
  by_cases h : 150 < s.size
  · have hz : (s.extract 0 150).size ≤ 1000000000 := by simp; omega
    obtain ⟨p, hp⟩ : ∃ p, takeV (s.extract 0 150).data.toList = p := ⟨_, rfl⟩
    have h1 := take_c (s.extract 0 150) hz
    have h2 := rtake_c (s.extract 0 150) hz
    rw [hp] at h1 h2
    have H1 := Lib.hid h1
    have H2 := Lib.hid h2
    clear h1 h2 hp
    obtain ⟨⟨pn, pi, ps⟩, pk, pe⟩ := p
    go_enter Tryd.func7, Tryd.ntmps7
    go_wp2_with fail
    refine (H1.out _).mono ?_
    rintro e w1 ⟨rfl, hb1⟩
    go_wp2_with fail
    refine (H2.out _).mono ?_
    rintro e w2 ⟨rfl, hb2⟩
    obtain ⟨hc2, hf2⟩ := bcell hb2
    have hz2 : w1.heap.size < w2.heap.size := (by have := hb2.size; simp at this; omega)
    have hB : Below w.heap.size w (w2.alloc (.cells #[.bool pn, .int .i64 pi, .string ⟨ps.toArray⟩] 23)) := by
      (repeat (first | exact Below.refl _ _ | assumption | refine bdrew ?_ | refine balloc _ ?_ | refine bset _ (by simp) ?_ | refine bstep (by assumption) ?_ | refine Grow.below (by assumption) ?_ | refine Tryst2.Grow.below (by assumption) ?_))
    have HT1 := Lib.hid (HT.out.grow hB)
    go_wp2_with fail
    refine (awake_c _ HT1.out).mono ?_
    rintro e w3 ⟨rfl, hb3⟩
    go_wp2_with fail
    go_ret
    exact ⟨rfl, bstep hb3 hB⟩
  · have hz : s.size ≤ 1000000000 := by omega
    obtain ⟨p, hp⟩ : ∃ p, takeV s.data.toList = p := ⟨_, rfl⟩
    have h1 := take_c s hz
    have h2 := rtake_c s hz
    rw [hp] at h1 h2
    have H1 := Lib.hid h1
    have H2 := Lib.hid h2
    clear h1 h2 hp
    obtain ⟨⟨pn, pi, ps⟩, pk, pe⟩ := p
    go_enter Tryd.func7, Tryd.ntmps7
    go_wp2_with fail
    refine (H1.out _).mono ?_
    rintro e w1 ⟨rfl, hb1⟩
    go_wp2_with fail
    refine (H2.out _).mono ?_
    rintro e w2 ⟨rfl, hb2⟩
    obtain ⟨hc2, hf2⟩ := bcell hb2
    have hz2 : w1.heap.size < w2.heap.size := (by have := hb2.size; simp at this; omega)
    have hB : Below w.heap.size w (w2.alloc (.cells #[.bool pn, .int .i64 pi, .string ⟨ps.toArray⟩] 23)) := by
      (repeat (first | exact Below.refl _ _ | assumption | refine bdrew ?_ | refine balloc _ ?_ | refine bset _ (by simp) ?_ | refine bstep (by assumption) ?_ | refine Grow.below (by assumption) ?_ | refine Tryst2.Grow.below (by assumption) ?_))
    have HT1 := Lib.hid (HT.out.grow hB)
    go_wp2_with fail
    refine (awake_c _ HT1.out).mono ?_
    rintro e w3 ⟨rfl, hb3⟩
    go_wp2_with fail
    go_ret
    exact ⟨rfl, bstep hb3 hB⟩
end Go.Proofs.YtmagghfegikidaaDoor
