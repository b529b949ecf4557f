/- ref02.Glob, ref02.meets, ref02.Meets. -/
import Derived.Test.YtmmdblpoecidaaaGreatDoorProg
import Derived.WalkKit
import Derived.WalkSpells
import Derived.WalkLawsBesides
import Derived.Lib.Hide
import Derived.Deep.RegionWith
import Derived.Deep.Cut
import Derived.IntWalk
import Derived.Test.YtmmdblpoecidaaaGreatDoorNmB
import Derived.Test.YtmmdblpoecidaaaGreatDoorMeets5
set_option linter.unusedVariables false
set_option linter.unusedSimpArgs false
namespace Go.Proofs.YtmmdblpoecidaaaGreatDoor
open Go.RowKit Tryst
set_option maxHeartbeats 400000
set_option maxRecDepth 20000
def GIsRel (l : List ByteArray) (i : Value) : Prop := ∃ k : Nat, k ≤ l.length ∧ i = .int .i64 k ∧ Hid (∀ (j : Nat) (h : j < l.length), j < k → gpartB l[j].data.toList = true)
set_option maxHeartbeats 4000000 in
theorem risglob_c (s : ByteArray) (hs : s.size ≤ 1000000) (w : World) : Calls Tryz.prog 44 #[.string s, .bool true] w fun e w' => e = .returned (.bool (globB s.data.toList)) ∧ Below w.heap.size w w' := by
  go_enter Tryz.func44, Tryz.ntmps44
  go_wp2_with fail
  refine (rcut_c s hs w).mono ?_
  rintro e w1 ⟨v, l, rfl, ho, hd, hb1⟩
  have hlen : l.length ≤ s.size + 1 := by
    have := (dots_len s.data.toList).1
    rw [← hd, List.length_map, len_str] at this
    exact this
  have hsz : ∀ x ∈ l, x.size ≤ s.size := fun x hx => by
    have := (dots_len s.data.toList).2 x.data.toList (by rw [← hd]; exact List.mem_map.2 ⟨x, hx, rfl⟩)
    rw [len_str, len_str] at this
    exact this
  obtain ⟨a, c, rfl, hst, hsl, _⟩ := ho.strs
  have HST := Lib.hid hst
  have HD := Lib.hid hd
  have KB := Lib.hid hb1
  have HSZ := Lib.hid hsz
  clear ho hst hd hb1 hsl hsz
  go_wp2_with fail
  go_loop [6] (fun i => GIsRel l i) (fun i => l.length - (intOf i).toNat)
  case atStart => exact ⟨0, by omega, rfl, fun j _ h => by omega⟩
  case round =>
    obtain ⟨k, hk, rfl, HA⟩ := hrel
    by_cases hlt : k < l.length
    · obtain ⟨b, o, ha, hb⟩ := HST.out.head hlt
      subst ha
      obtain ⟨_, f0⟩ := HST.out.at hlt
      have x1 : (k : Int) < l.length := by omega
      have x2 : (0 : Int) ≤ k := by omega
      have hls := HSZ.out l[k] (List.getElem_mem hlt)
      cases hp : partB l[k].data.toList with
      | true =>
        skip
        have HP := Lib.hid hp
        have HG : Hid (∀ (j : Nat) (h : j < l.length), j < k + 1 → gpartB l[j].data.toList = true) := fun j hj hjk => by
          by_cases e : j = k
          · subst e; unfold gpartB; simp [HP.out]
          · exact HA.out j hj (by omega)
        clear hp HA
        go_wp2_with fail
        refine (rpart_c l[k] (by omega) _).mono ?_
        rintro e w2 ⟨rfl, rfl⟩
        rw [HP.out]
        go_wp2_with fail
        go_round
        case rel => exact ⟨k + 1, by omega, by go_num, HG.out⟩
        case measure => simp [intOf] <;> omega
      | false =>
        by_cases h1 : l[k].data.toList = [42]
        · skip
          have z1 : (l[k].toList == [42]) = true := by rw [str_toList, h1]; rfl
          have HP := Lib.hid hp
          have HG : Hid (∀ (j : Nat) (h : j < l.length), j < k + 1 → gpartB l[j].data.toList = true) := fun j hj hjk => by
            by_cases e : j = k
            · subst e; unfold gpartB; simp [h1]
            · exact HA.out j hj (by omega)
          clear hp HA
          go_wp2_with fail
          refine (rpart_c l[k] (by omega) _).mono ?_
          rintro e w2 ⟨rfl, rfl⟩
          rw [HP.out]
          go_wp2_with fail
          go_round
          case rel => exact ⟨k + 1, by omega, by go_num, HG.out⟩
          case measure => simp [intOf] <;> omega
        by_cases h2 : l[k].data.toList = [42, 42]
        · skip
          have z1 : (l[k].toList == [42]) = false := by rw [str_toList]; simpa using h1
          have z2 : (l[k].toList == [42, 42]) = true := by rw [str_toList, h2]; rfl
          have HP := Lib.hid hp
          have HG : Hid (∀ (j : Nat) (h : j < l.length), j < k + 1 → gpartB l[j].data.toList = true) := fun j hj hjk => by
            by_cases e : j = k
            · subst e; unfold gpartB; simp [h2]
            · exact HA.out j hj (by omega)
          clear hp HA
          go_wp2_with fail
          refine (rpart_c l[k] (by omega) _).mono ?_
          rintro e w2 ⟨rfl, rfl⟩
          rw [HP.out]
          go_wp2_with fail
          go_round
          case rel => exact ⟨k + 1, by omega, by go_num, HG.out⟩
          case measure => simp [intOf] <;> omega
        have HP := Lib.hid hp
        have HG : Hid (globB s.data.toList = false) := by
          show _ = _
          unfold globB
          rw [← HD.out]
          have : (l.map (fun x => x.data.toList)).all gpartB = false := by
            rw [List.all_eq_false]
            exact ⟨_, List.mem_map.2 ⟨l[k], List.getElem_mem hlt, rfl⟩, by unfold gpartB; rw [hp]; simp [h1, h2]⟩
          rw [this, Bool.and_false]
        have z1 : (l[k].toList == [42]) = false := by rw [str_toList]; simpa using h1
        have z2 : (l[k].toList == [42, 42]) = false := by rw [str_toList]; simpa using h2
        clear hp HA h1 h2
        go_wp2_with fail
        refine (rpart_c l[k] (by omega) _).mono ?_
        rintro e w2 ⟨rfl, rfl⟩
        rw [HP.out]
        go_wp2_with fail
        go_ret
        exact ⟨ret_bool HG.out.symm, KB.out⟩
    · have HG : Hid (globB s.data.toList = (decide (s.size ≤ 40) && decide (l.length ≤ 8))) := by
        show _ = _
        unfold globB
        rw [← HD.out]
        have : (l.map (fun x => x.data.toList)).all gpartB = true := by
          rw [List.all_eq_true]
          intro x hx
          obtain ⟨y, hy, rfl⟩ := List.mem_map.1 hx
          obtain ⟨j, hj, rfl⟩ := List.getElem_of_mem hy
          exact HA.out j hj (by omega)
        rw [this, Bool.and_true, len_str, List.length_map]
      clear HA
      by_cases h8 : l.length ≤ 8
      · by_cases h40 : s.size ≤ 40
        · have HR : Hid (globB s.data.toList = true) := by show _ = _; rw [HG.out, decide_eq_true h8, decide_eq_true h40]; rfl
          go_wp2_with fail
          go_ret
          exact ⟨ret_bool (by rw [HR.out]; simp; omega), KB.out⟩
        · have HR : Hid (globB s.data.toList = false) := by show _ = _; rw [HG.out, decide_eq_false h40]; rfl
          have z1 : decide ((s.size : Int) ≤ 40) = false := by simp; omega
          go_wp2_with fail
          go_ret
          exact ⟨ret_bool HR.out.symm, KB.out⟩
      · have HR : Hid (globB s.data.toList = false) := by show _ = _; rw [HG.out, decide_eq_false h8, Bool.and_false]
        have z1 : decide ((l.length : Int) ≤ 8) = false := by simp; omega
        go_wp2_with fail
        go_ret
        exact ⟨ret_bool HR.out.symm, KB.out⟩
theorem rglob_c (s : ByteArray) (hs : s.size ≤ 1000000) (w : World) : Calls Tryz.prog 28 #[.string s] w fun e w' => e = .returned (.bool (globB s.data.toList)) ∧ Below w.heap.size w w' := by
  go_enter Tryz.func28, Tryz.ntmps28
  go_wp2_with fail
  refine (risglob_c s hs w).mono ?_
  rintro e w1 ⟨rfl, hb1⟩
  go_wp2_with fail
  go_ret
  exact ⟨rfl, hb1⟩
end Go.Proofs.YtmmdblpoecidaaaGreatDoor
namespace Go.Proofs.YtmmdblpoecidaaaGreatDoor
open Go.RowKit Tryst
set_option maxHeartbeats 20000000
set_option maxRecDepth 20000
def dataL (l : List ByteArray) : List (List UInt8) := l.map fun x => x.data.toList
theorem dataL_drop (l : List ByteArray) (m : Nat) : dataL (l.drop m) = (dataL l).drop m := by
  unfold dataL
  rw [List.map_drop]
/-- the tails from the i-th on: does none meet? -/
def RMRel (g : List (List UInt8)) (t : List (List UInt8)) (w : World) (i : Value) (wr : World) : Prop := ∃ k : Nat, k ≤ t.length + 1 ∧ i = .int .i64 k ∧ Hid (∀ j, j < k → meetsL g (t.drop j) = false) ∧ Hid (Below w.heap.size w wr)
theorem anyTail_iff (f : List (List UInt8) → Bool) : ∀ t : List (List UInt8), anyTail f t = true ↔ ∃ j, j ≤ t.length ∧ f (t.drop j) = true
  | [] => by
    constructor
    · intro h; exact ⟨0, Nat.le_refl _, h⟩
    · rintro ⟨j, hj, h⟩
      obtain rfl : j = 0 := by simpa using hj
      exact h
  | x :: r => by
    unfold anyTail
    rw [Bool.or_eq_true, anyTail_iff f r]
    constructor
    · rintro (h | ⟨j, hj, h⟩)
      · exact ⟨0, Nat.zero_le _, h⟩
      · exact ⟨j + 1, by simp; omega, h⟩
    · rintro ⟨j, hj, h⟩
      cases j with
      | zero => exact .inl h
      | succ j => exact .inr ⟨j, by simpa using hj, h⟩
end Go.Proofs.YtmmdblpoecidaaaGreatDoor
namespace Go.Proofs.YtmmdblpoecidaaaGreatDoor
open Go.RowKit Tryst
set_option maxHeartbeats 2000000
set_option maxRecDepth 20000
end Go.Proofs.YtmmdblpoecidaaaGreatDoor
