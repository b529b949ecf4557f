/- The walk of the reference digits. -/
import Derived.Test.YtmmdblpoecidaaaGreatDoorProg
import Derived.WalkKit
import Derived.WalkSpells
import Derived.WalkLawsBesides
import Derived.Lib.Hide
import Derived.Deep.RegionWith
import Derived.Test.YtmmdblpoecidaaaGreatDoorFacts
import Derived.Test.YtmmdblpoecidaaaGreatDoorNumV
import Derived.Test.YtmmdblpoecidaaaGreatDoorShelf
import Derived.Test.YtmmdblpoecidaaaGreatDoorDraws
set_option linter.unusedVariables false
set_option linter.unusedSimpArgs false
namespace Go.Proofs.YtmmdblpoecidaaaGreatDoor
open Go.RowKit Tryst
set_option maxHeartbeats 400000
set_option maxRecDepth 20000
def digMeas : Value → Value → Nat
  | .string b, .int _ q => q.natAbs * 2 + (if b.size = 0 then 1 else 0)
  | _, _ => 0
theorem digMeas_cons (c : UInt8) (l : List UInt8) (k : IntKind) (q : Int) : digMeas (.string ((⟨#[c]⟩ : ByteArray) ++ ⟨l.toArray⟩)) (.int k q) = q.natAbs * 2 := by
  have : ((⟨#[c]⟩ : ByteArray) ++ ⟨l.toArray⟩).size ≠ 0 := by rw [← len_str, app_str]; simp
  simp only [digMeas, this, if_false, Nat.add_zero]
theorem digMeas_le (b : ByteArray) (k : IntKind) (q : Int) : q.natAbs * 2 ≤ digMeas (.string b) (.int k q) := by
  simp only [digMeas]; omega
theorem rdigits_c (n : Int) (h0 : -9223372036854775808 ≤ n) (h1 : n ≤ 9223372036854775807) (w : World) :
    Calls Tryz.prog 36 #[.int .i64 n] w fun e w' => e = .returned (.string ⟨(Lib.itoa n).toArray⟩) ∧ Below w.heap.size w w' := by
  have hv := cv1
  have hn := cellNum_some
  go_enter Tryz.func36, Tryz.ntmps36
  go_wp2
  go_loopw [3, 4] (fun s m wr => ∃ (l : List UInt8) (q : Int), s = .string ⟨l.toArray⟩ ∧ m = .int .i64 q ∧ -9223372036854775808 ≤ q ∧ q ≤ 9223372036854775807 ∧ l.length ≤ 100 ∧ Hid (DigRel n q l) ∧ Below w.heap.size w wr) (fun s m _ => digMeas s m)
  case atStart => exact ⟨[], n, rfl, rfl, h0, h1, by simp, DigRel.start n, .refl _ _⟩
  case round =>
    obtain ⟨l, q, rfl, rfl, q0, q1, hl, hr, hb⟩ := hrel
    have hB := hb.size
    by_cases hz : q = 0 ∧ l ≠ []
    · obtain ⟨rfl, hl0⟩ := hz
      have hle : l.isEmpty = false := by simpa using hl0
      have hd := Lib.hid (hr.out.done hl0)
      clear hl0
      by_cases hs : n < 0
      · have hi : Lib.itoa n = [45] ++ l := by unfold Lib.itoa; rw [if_pos hs, hd.out]; rfl
        have HI := Lib.hid hi
        clear hi
        go_wp2
        go_ret
        refine ⟨ret_eq ?_, hb⟩
        show Value.string _ = _
        rw [HI.out, ← ByteArray.mk_append_mk]
      · have hi : Lib.itoa n = l := by unfold Lib.itoa; rw [if_neg hs, ← hd.out]; congr 1; omega
        have HI := Lib.hid hi
        clear hi
        go_wp2
        go_ret
        exact ⟨ret_str HI.out.symm, hb⟩
    · have hst := Lib.hid (hr.out.step (by
        by_cases hq : q = 0
        · right; exact Classical.byContradiction fun h => hz ⟨hq, h⟩
        · exact .inl hq))
      have hlen := hst.out.len h0 h1
      have happ : ∀ c : UInt8, (⟨#[c]⟩ : ByteArray) ++ ⟨l.toArray⟩ = ⟨(c :: l).toArray⟩ := fun c => ByteArray.mk_append_mk [c] l
      have HA := Lib.hid happ
      clear happ
      have hcases : (q = 0 ∧ l = []) ∨ 0 < q ∨ q < 0 := by
        by_cases hq : q = 0
        · left; exact ⟨hq, Classical.byContradiction fun h => hz ⟨hq, h⟩⟩
        · omega
      clear hz
      rcases hcases with ⟨rfl, rfl⟩ | hq | hq
      · go_wp2
        go_roundw
        case rel =>
          refine ⟨[48], 0, by rw [HA.out], rfl, by omega, by omega, by simp, hst.out, ?_⟩
          (repeat (first | exact Below.refl _ _ | assumption | refine bdrew ?_ | refine balloc _ ?_ | refine bset _ (by simp) ?_ | refine bstep (by assumption) ?_ | refine Grow.below (by assumption) ?_ | refine Tryst2.Grow.below (by assumption) ?_))
        case measure => exact Nat.lt_of_le_of_lt (Nat.le_of_eq (digMeas_cons 48 [] _ 0)) (by decide)
      · have ha : q.natAbs % 10 = (q % 10).toNat := by omega
        rw [ha] at hst hlen
        have h10 : 0 ≤ q % 10 := by omega
        have h11 : q % 10 ≤ 9 := by omega
        have hb10 : (q == 0) = false := by simp; omega
        have hdv : q.tdiv 10 = q / 10 := Int.tdiv_eq_ediv_of_nonneg (by omega)
        rw [hdv] at hst
        clear hdv ha
        go_wp2
        go_roundw
        case rel =>
          refine ⟨UInt8.ofNat (48 + (q % 10).toNat) :: l, q / 10, ?_, rfl, by omega, by omega, by simpa using hlen, hst.out, ?_⟩
          · rw [show (48 + q % 10).toNat = 48 + (q % 10).toNat by omega, HA.out]
          · (repeat (first | exact Below.refl _ _ | assumption | refine bdrew ?_ | refine balloc _ ?_ | refine bset _ (by simp) ?_ | refine bstep (by assumption) ?_ | refine Grow.below (by assumption) ?_ | refine Tryst2.Grow.below (by assumption) ?_))
        case measure => exact Nat.lt_of_lt_of_le (by rw [digMeas_cons]; omega) (digMeas_le _ _ _)
      · obtain ⟨a, rfl⟩ : ∃ a : Nat, q = -(a : Int) := ⟨q.natAbs, by omega⟩
        have ha : (-(a : Int)).natAbs = a := by omega
        have hdv : (-(a : Int)).tdiv 10 = -((a / 10 : Nat) : Int) := by rw [Int.neg_tdiv]; rfl
        have hmd : (-(a : Int)).tmod 10 = -((a % 10 : Nat) : Int) := by rw [Int.neg_tmod]; rfl
        rw [ha] at hst hlen
        rw [hdv] at hst
        have h11 : a % 10 ≤ 9 := by omega
        have hb10 : ((-(a : Int)) == 0) = false := by simp; omega
        by_cases hm : a % 10 = 0
        · have hmd' : (-(a : Int)).tmod 10 = 0 := by rw [hmd, hm]; rfl
          rw [hm] at hst
          clear hmd hm ha
          go_wp2
          go_roundw
          case rel =>
            refine ⟨48 :: l, -((a / 10 : Nat) : Int), by rw [HA.out], by simp, by omega, by omega, by simpa using hlen, hst.out, ?_⟩
            (repeat (first | exact Below.refl _ _ | assumption | refine bdrew ?_ | refine balloc _ ?_ | refine bset _ (by simp) ?_ | refine bstep (by assumption) ?_ | refine Grow.below (by assumption) ?_ | refine Tryst2.Grow.below (by assumption) ?_))
          case measure => exact Nat.lt_of_lt_of_le (by rw [digMeas_cons]; omega) (digMeas_le _ _ _)
        · have hm1 : -((a % 10 : Nat) : Int) < 0 := by omega
          have hu : (48 : UInt8) + UInt8.ofNat (a % 10) = UInt8.ofNat (48 + a % 10) := by
            apply UInt8.toNat.inj; simp
          have HU := Lib.hid hu
          clear hm ha hu
          go_wp2
          go_roundw
          case rel =>
            refine ⟨UInt8.ofNat (48 + a % 10) :: l, -((a / 10 : Nat) : Int), by rw [HU.out, HA.out], by simp, by omega, by omega, by simpa using hlen, hst.out, ?_⟩
            (repeat (first | exact Below.refl _ _ | assumption | refine bdrew ?_ | refine balloc _ ?_ | refine bset _ (by simp) ?_ | refine bstep (by assumption) ?_ | refine Grow.below (by assumption) ?_ | refine Tryst2.Grow.below (by assumption) ?_))
          case measure => exact Nat.lt_of_lt_of_le (by rw [digMeas_cons]; omega) (digMeas_le _ _ _)
end Go.Proofs.YtmmdblpoecidaaaGreatDoor
