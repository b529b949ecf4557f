/- The walk of part: a text of signs that may be. -/
import Derived.Test.YtfohdjgalmodbaaProg
import Derived.WalkKit
import Derived.WalkSpells
import Derived.WalkLawsBesides
import Derived.Lib.Hide
import Derived.Deep.RegionWith
import Derived.Deep.Cut
import Derived.Test.YtfohdjgalmodbaaBase
import Derived.Test.YtfohdjgalmodbaaFacts
set_option linter.unusedVariables false
set_option linter.unusedSimpArgs false
namespace Go.Proofs.Ytfohdjgalmodbaa
open Go.RowKit Tryst
set_option maxHeartbeats 400000
set_option maxRecDepth 20000
def runeOk (r : Int) : Bool := decide (97 ≤ r ∧ r ≤ 122) || decide (48 ≤ r ∧ r ≤ 57) || decide (r = 95)
theorem part1_c (r : Int) (h0 : 0 ≤ r) (h1 : r ≤ 2147483647) (w : World) : Calls Try.prog 58 #[.int .i32 r] w fun e w' => e = .returned (.bool (runeOk r)) ∧ w = w' := by
  by_cases ha : 97 ≤ r
  · by_cases hb : r ≤ 122
    · have e : runeOk r = true := by unfold runeOk; simp; omega
      have E := Lib.hid e
      clear e
      go_enter Try.func58, Try.ntmps58
      go_wp2_with fail
      go_ret
      exact ⟨ret_bool E.out.symm, rfl⟩
    · have hc : 48 ≤ r := by omega
      have hd : ¬ r ≤ 57 := by omega
      have hn : (r == 95) = false := by simp; omega
      have e : runeOk r = false := by unfold runeOk; simp; omega
      have E := Lib.hid e
      clear e
      go_enter Try.func58, Try.ntmps58
      go_wp2_with fail
      go_ret
      exact ⟨ret_bool E.out.symm, rfl⟩
  · by_cases hc : 48 ≤ r
    · by_cases hd : r ≤ 57
      · have e : runeOk r = true := by unfold runeOk; simp; omega
        have E := Lib.hid e
        clear e
        go_enter Try.func58, Try.ntmps58
        go_wp2_with fail
        go_ret
        exact ⟨ret_bool E.out.symm, rfl⟩
      · have e : runeOk r = (r == 95) := by
          by_cases h : r = 95
          · subst h; rfl
          · have h' : (r == 95) = false := by simpa using h
            rw [h']; unfold runeOk; simp; omega
        have E := Lib.hid e
        clear e
        go_enter Try.func58, Try.ntmps58
        go_wp2_with fail
        go_ret
        exact ⟨ret_bool E.out.symm, rfl⟩
    · have hn : (r == 95) = false := by simp; omega
      have e : runeOk r = false := by unfold runeOk; simp; omega
      have E := Lib.hid e
      clear e
      go_enter Try.func58, Try.ntmps58
      go_wp2_with fail
      go_ret
      exact ⟨ret_bool E.out.symm, rfl⟩
def PartRel (s : ByteArray) (w : World) (wr : World) : Prop := ∃ pos : Nat, wr = w.iter s pos ∧ pos ≤ s.size ∧ Hid (∀ (j : Nat) (h : j < s.size), j < pos → partC s[j] = true)
theorem part_c (s : ByteArray) (hs : s.size ≤ 1000000000) (w : World) : Calls Try.prog 49 #[.string s] w fun e w' => e = .returned (.bool (partB s.data.toList)) ∧ Below w.heap.size w w' := by
  go_enter Try.func49, Try.ntmps49
  go_wp2_with fail
  go_loopw [5] (fun _ wr => PartRel s w wr) (fun _ wr => s.size - wr.iterPos w.heap.size)
  case atStart => exact ⟨0, rfl, by omega, fun j _ h => by omega⟩
  case round =>
    obtain ⟨pos, rfl, hp, HA⟩ := hrel
    by_cases hlt : pos < s.size
    · obtain ⟨c, hc⟩ : ∃ c, s[pos].toNat = c := ⟨_, rfl⟩
      have hcl : c < 256 := hc ▸ s[pos].toNat_lt
      by_cases hasc : c < 128
      · have hnx := fun ty => run_next_ascii (P := Try.prog) w s pos ty hlt (by omega)
        rw [hc] at hnx
        by_cases hok : partC s[pos] = true
        · have hr : runeOk (c : Int) = true := by
            unfold partC at hok
            rw [hc] at hok
            unfold runeOk
            simp at hok ⊢
            omega
          have HR := Lib.hid hr
          have HK := Lib.hid hok
          clear hr hok
          go_wp2_with fail
          refine (part1_c c (by omega) (by omega) _).mono ?_
          rintro e w1 ⟨rfl, rfl⟩
          rw [HR.out]
          go_wp2_with fail
          go_roundw
          case rel => exact ⟨pos + 1, rfl, by omega, fun j h hj => by
            by_cases e : j = pos
            · subst e; exact HK.out
            · exact HA.out j h (by omega)⟩
          case measure => simp; omega
        · have hr : runeOk (c : Int) = false := by
            unfold partC at hok
            rw [hc] at hok
            unfold runeOk
            simp at hok ⊢
            omega
          have hbad : partB s.data.toList = false := by
            unfold partB
            have : s.data.toList.all partC = false := by
              rw [List.all_eq_false]
              exact ⟨s[pos], List.mem_of_getElem? (by rw [List.getElem?_eq_getElem (by simpa using hlt)]; rfl), hok⟩
            rw [this, Bool.and_false]
          have HR := Lib.hid hr
          have HB := Lib.hid hbad
          clear hr hok hbad
          go_wp2_with fail
          refine (part1_c c (by omega) (by omega) _).mono ?_
          rintro e w1 ⟨rfl, rfl⟩
          rw [HR.out]
          go_wp2_with fail
          go_ret
          exact ⟨ret_bool HB.out.symm, balloc _ (.refl _ _)⟩
      · have hnx := fun ty => run_next_any (P := Try.prog) w s pos ty hlt
        obtain ⟨hd1, hd2⟩ := decode_high s pos hlt (by omega)
        have hd3 := decode_le s pos
        obtain ⟨D, hD⟩ : ∃ D, (Utf8.decode s pos).1 = D := ⟨_, rfl⟩
        rw [hD] at hnx hd1 hd3
        have hr : runeOk (D : Int) = false := by
          unfold runeOk; simp; omega
        have hbad : partB s.data.toList = false := by
          unfold partB
          have : s.data.toList.all partC = false := by
            rw [List.all_eq_false]
            refine ⟨s[pos], List.mem_of_getElem? (by rw [List.getElem?_eq_getElem (by simpa using hlt)]; rfl), ?_⟩
            unfold partC
            rw [hc]; simp; omega
          rw [this, Bool.and_false]
        have HR := Lib.hid hr
        have HB := Lib.hid hbad
        clear hr hbad hD
        go_wp2_with fail
        refine (part1_c D (by omega) (by omega) _).mono ?_
        rintro e w1 ⟨rfl, rfl⟩
        rw [HR.out]
        go_wp2_with fail
        go_ret
        exact ⟨ret_bool HB.out.symm, balloc _ (.refl _ _)⟩
    · have hnx := fun ty => run_next_end (P := Try.prog) w s pos ty hlt
      have hall : s.data.toList.all partC = true := by
        rw [List.all_eq_true]
        intro x hx
        obtain ⟨j, hj, rfl⟩ := List.getElem_of_mem hx
        exact HA.out j (by simpa using hj) (by simp at hj; omega)
      have HP : Hid (partB s.data.toList = !s.data.toList.isEmpty) := by
        show partB s.data.toList = _
        unfold partB; rw [hall, Bool.and_true]
      clear hall
      go_wp2_with fail
      go_ret
      refine ⟨ret_bool ?_, balloc _ (.refl _ _)⟩
      rw [HP.out, ← str_toList]
end Go.Proofs.Ytfohdjgalmodbaa
