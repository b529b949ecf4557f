/- The walk of word of chapter 04. -/
import Derived.Test.YtcbnehplilpidaaProg
import Derived.WalkKit
import Derived.WalkSpells
import Derived.WalkLawsBesides
import Derived.Lib.Hide
import Derived.Deep.RegionWith
import Derived.Deep.Cut
import Derived.IntWalk
import Derived.Test.YtcbnehplilpidaaRdB
import Derived.Test.YtcbnehplilpidaaEv19
set_option linter.unusedVariables false
set_option linter.unusedSimpArgs false
namespace Tryst
open Go Go.Lib
theorem rtext_keep (l : List UInt8) (most a e : Nat) (h : e ≠ 0) : rtext l most (a, e) = ([], (a, e)) := by
  unfold rtext
  rw [rnum_keep l most a e h]
  rw [if_pos h]
theorem rval_keep (l : List UInt8) (a e : Nat) (h : e ≠ 0) : rval l (a, e) = (V.zero, (a, e)) := by unfold rval; rw [if_pos h]
theorem rfld_keep (l : List UInt8) (a e : Nat) (h : e ≠ 0) : (rfld l (a, e)).2 = (a, e) := by
  unfold rfld
  rw [rtext_keep l 16 a e h]
  show (rval l (a, e)).2 = _
  rw [rval_keep l a e h]
theorem rflds_keep (l : List UInt8) : ∀ (n a e : Nat), e ≠ 0 → (rflds l n (a, e)).2 = (a, e)
  | 0, a, e, _ => rfl
  | n + 1, a, e, h => by
    show (rflds l n (rfld l (a, e)).2).2 = _
    rw [rfld_keep l a e h]
    exact rflds_keep l n a e h
/-- the text at a place, the place behind it, and the error's number: the document's -/
def wordP (l : List UInt8) (most a : Nat) : List UInt8 × Nat × Nat := if (rtext l most (a, 0)).2.2 ≠ 0 then ([], 0, (rtext l most (a, 0)).2.2) else ((rtext l most (a, 0)).1, (rtext l most (a, 0)).2.1, 0)
end Tryst
namespace Go.Proofs.Ytcbnehplilpidaa
open Go.RowKit Tryst
set_option maxHeartbeats 400000
set_option maxRecDepth 20000
def WordR (w : World) (p : List UInt8 × Nat × Nat) (e : Ending) (w' : World) : Prop := e = .returned (.tuple #[.string ⟨p.1.toArray⟩, .int .i64 p.2.1, .int .i64 p.2.2]) ∧ Below w.heap.size w w'
theorem rword_c (s : ByteArray) (hs : s.size ≤ 1000000000) (a most : Nat) (ha : a ≤ s.size) (hm : most ≤ 1000000) (w : World) :
    Calls Try.prog 80 #[.string s, .int .i64 a, .int .i64 most] w fun e w' => WordR w (wordP s.data.toList most a) e w' := by
  have hxz : (s.extract a s.size).size ≤ 1000000000 := by rw [ByteArray.size_extract]; omega
  have x1 : (a : Int) ≤ s.size := by omega
  have x2 : (0 : Int) ≤ a := by omega
  obtain ⟨p, hp⟩ : ∃ p, wordP s.data.toList most a = p := ⟨_, rfl⟩
  rw [hp]
  have HP := Lib.hid hp
  have hu := runpack_c (s.extract a s.size) hxz
  clear hp
  rcases rnum_cases s most a ha with ⟨n, k, hn, hnm, hak, hr⟩ | ⟨n, k, hn, hnm, hn64, hr⟩ | ⟨hn, hr⟩ | ⟨hn, hr⟩
  · rw [hn] at hu
    have HU := Lib.hid hu
    by_cases hlen : s.size - (a + k) < n
    · obtain rfl : p = ([], 0, 3) := HP.out.symm.trans (by
        have e : rtext s.data.toList most (a, 0) = ([], (a + k, 3)) := by
          unfold rtext
          rw [hr]
          dsimp only
          rw [if_neg (by simp), if_pos (by rw [len_str]; exact hlen)]
        unfold wordP
        rw [e]
        rfl)
      clear hu hn hr HP
      have y1 : ¬ (most : Int) < n := by omega
      have y2 : (s.size : Int) < (a : Int) + k + n := by omega
      go_enter Try.func80, Try.ntmps80
      go_wp2_with fail
      refine (HU.out _).mono ?_
      rintro e w1 ⟨rfl, hb1⟩
      go_wp2_with fail
      go_ret3
      exact ⟨rfl, hb1⟩
    · obtain rfl : p = ((s.data.toList.drop (a + k)).take n, a + k + n, 0) := HP.out.symm.trans (by
        have e : rtext s.data.toList most (a, 0) = ((s.data.toList.drop (a + k)).take n, (a + k + n, 0)) := by
          unfold rtext
          rw [hr]
          dsimp only
          rw [if_neg (by simp), if_neg (by rw [len_str]; exact hlen)]
        unfold wordP
        rw [e]
        rfl)
      clear hu hn hr HP
      have y1 : ¬ (most : Int) < n := by omega
      have y2 : ¬ (s.size : Int) < (a : Int) + k + n := by omega
      have y3 : (s.extract (a + k) (a + k + n)) = (⟨((s.data.toList.drop (a + k)).take n).toArray⟩ : ByteArray) := str_ext (by rw [sub_str, mk_str, List.drop_take]; congr 1; omega)
      have H3 := Lib.hid y3
      clear y3
      go_enter Try.func80, Try.ntmps80
      go_wp2_with fail
      refine (HU.out _).mono ?_
      rintro e w1 ⟨rfl, hb1⟩
      go_wp2_with fail
      go_ret3
      refine ⟨?_, hb1⟩
      show _ = Ending.returned (.tuple #[.string ⟨((s.data.toList.drop (a + k)).take n).toArray⟩, .int .i64 ((a + k + n : Nat) : Int), .int .i64 0])
      rw [← H3.out]
      rfl
  · obtain rfl : p = ([], 0, 2) := HP.out.symm.trans (by
      have e : rtext s.data.toList most (a, 0) = ([], (a, 2)) := by unfold rtext; rw [hr]; rfl
      unfold wordP
      rw [e]
      rfl)
    rw [hn] at hu
    have HU := Lib.hid hu
    clear hu hn hr HP
    have y1 : (most : Int) < n := by omega
    go_enter Try.func80, Try.ntmps80
    go_wp2_with fail
    refine (HU.out _).mono ?_
    rintro e w1 ⟨rfl, hb1⟩
    go_wp2_with fail
    go_ret3
    exact ⟨rfl, hb1⟩
  · obtain rfl : p = ([], 0, 2) := HP.out.symm.trans (by
      have e : rtext s.data.toList most (a, 0) = ([], (a, 2)) := by unfold rtext; rw [hr]; rfl
      unfold wordP
      rw [e]
      rfl)
    rw [hn] at hu
    have HU := Lib.hid hu
    clear hu hn hr HP
    go_enter Try.func80, Try.ntmps80
    go_wp2_with fail
    refine (HU.out _).mono ?_
    rintro e w1 ⟨rfl, hb1⟩
    go_wp2_with fail
    go_ret3
    exact ⟨rfl, hb1⟩
  · obtain rfl : p = ([], 0, 3) := HP.out.symm.trans (by
      have e : rtext s.data.toList most (a, 0) = ([], (a, 3)) := by unfold rtext; rw [hr]; rfl
      unfold wordP
      rw [e]
      rfl)
    rw [hn] at hu
    have HU := Lib.hid hu
    clear hu hn hr HP
    go_enter Try.func80, Try.ntmps80
    go_wp2_with fail
    refine (HU.out _).mono ?_
    rintro e w1 ⟨rfl, hb1⟩
    go_wp2_with fail
    go_ret3
    exact ⟨rfl, hb1⟩
end Go.Proofs.Ytcbnehplilpidaa
