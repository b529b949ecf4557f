/- ref02.Meets. -/
import Derived.Test.YtmmdblpoecidaaaDoorProg
import Derived.WalkKit
import Derived.WalkSpells
import Derived.WalkLawsBesides
import Derived.Lib.Hide
import Derived.IntWalk
import Derived.Test.YtmmdblpoecidaaaDoorRMeets5
set_option linter.unusedVariables false
set_option linter.unusedSimpArgs false
namespace Go.Proofs.YtmmdblpoecidaaaDoor
open Go.RowKit Tryst
set_option maxHeartbeats 2000000
set_option maxRecDepth 20000
theorem rMeets_c (s t : ByteArray) (hs : s.size ≤ 100000) (ht : t.size ≤ 100000) (w : World) : Calls Tryd.prog 18 #[.string s, .string t] w fun e w' => e = .returned (.bool (meetsB s.data.toList t.data.toList)) ∧ Below w.heap.size w w' := by
  have hg1 := rglob_c s (by omega) w
  have HT := Lib.hid (fun (W : World) => rtopic_c t (by omega) W)
  unfold meetsB
  cases hg : globB s.data.toList with
  | false =>
    rw [hg] at hg1
    simp only [Bool.false_and]
    go_enter Tryd.func18, Tryd.ntmps18
    go_wp2_with fail
    refine hg1.mono ?_
    rintro e w1 ⟨rfl, hb1⟩
    go_wp2_with fail
    go_ret
    exact ⟨rfl, hb1⟩
  | true =>
    rw [hg] at hg1
    cases htp : topicB t.data.toList with
    | false =>
      rw [htp] at HT
      simp only [Bool.true_and, Bool.false_and]
      go_enter Tryd.func18, Tryd.ntmps18
      go_wp2_with fail
      refine hg1.mono ?_
      rintro e w1 ⟨rfl, hb1⟩
      go_wp2_with fail
      refine (HT.out _).mono ?_
      rintro e w2 ⟨rfl, hb2⟩
      go_wp2_with fail
      go_ret
      exact ⟨rfl, bstep hb2 hb1⟩
    | true =>
      rw [htp] at HT
      simp only [Bool.true_and]
      go_enter Tryd.func18, Tryd.ntmps18
      go_wp2_with fail
      refine hg1.mono ?_
      rintro e w1 ⟨rfl, hb1⟩
      go_wp2_with fail
      refine (HT.out _).mono ?_
      rintro e w2 ⟨rfl, hb2⟩
      have HB2 := Lib.hid (bstep hb2 hb1)
      clear hb1 hb2 hg1 HT
      go_wp2_with fail
      refine (rcut_c s (by omega) w2).mono ?_
      rintro e w3 ⟨v3, l3, rfl, ho3, hd3, hb3⟩
      obtain ⟨a3, c3, rfl, hs3, sl3, _⟩ := ho3.strs
      have HB3 := Lib.hid (bstep hb3 HB2.out)
      have HS3 := Lib.hid hs3
      have h3 : l3.length ≤ 100001 := by
        have := (dots_len s.data.toList).1
        rw [← hd3, List.length_map, len_str] at this
        omega
      clear hb3 ho3 hs3 HB2
      go_wp2_with fail
      refine (rcut_c t (by omega) w3).mono ?_
      rintro e w4 ⟨v4, l4, rfl, ho4, hd4, hb4⟩
      obtain ⟨a4, c4, rfl, hs4, sl4, _⟩ := ho4.strs
      have HB4 := Lib.hid (bstep hb4 HB3.out)
      have HS4 := Lib.hid (HS3.out.grow hb4)
      have h4 : l4.length ≤ 100001 := by
        have := (dots_len t.data.toList).1
        rw [← hd4, List.length_map, len_str] at this
        omega
      have HM := Lib.hid (rmeets_c l3 a3 c3 l4 a4 c4 w4 HS4.out hs4 sl3 sl4 (by omega) (by omega))
      unfold dataL at HM
      rw [hd3, hd4] at HM
      clear hb4 ho4 hs4 HB3 hd3 hd4 sl3 sl4 h3 h4 HS3 HS4
      go_wp2_with fail
      refine HM.out.mono ?_
      rintro e w5 ⟨rfl, hb5⟩
      have HB5 := Lib.hid (bstep hb5 HB4.out)
      clear hb5
      go_wp2_with fail
      go_ret
      exact ⟨rfl, HB5.out⟩
end Go.Proofs.YtmmdblpoecidaaaDoor
