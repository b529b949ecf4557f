/- The walk of ValBehind: a value laid, read back with more behind it and with one octet less. -/
import Derived.Test.YtmagghfegikidaaDoorProg
import Derived.WalkKit
import Derived.WalkSpells
import Derived.WalkLawsBesides
import Derived.Lib.Hide
import Derived.Deep.RegionWith
import Derived.Test.YtmagghfegikidaaDoorTakes
set_option linter.unusedVariables false
set_option linter.unusedSimpArgs false
namespace Go.Proofs.YtmagghfegikidaaDoor
open Go.RowKit Tryst
set_option maxHeartbeats 400000
set_option maxRecDepth 20000
theorem fewAll_c (x : Bool) (n : Int) (s : ByteArray) (hs : s.size ≤ 9223372036854775807) (w : World) :
    Calls Tryd.prog 13 #[.agg #[.bool x, .int .i64 n, .string s]] w fun e w' => e = .returned (.agg #[.bool x, .int .i64 n, .string (few s)]) ∧ Below w.heap.size w w' := by
  by_cases h : 70 < s.size
  all_goals
    go_enter Tryd.func13, Tryd.ntmps13
    go_wp2
    first | rw [show few s = s.extract 0 70 by unfold few; rw [if_pos (by omega)]] | rw [show few s = s by unfold few; rw [if_neg (by omega)]]
    exact bodyPost_ret (v := .agg #[.bool x, .int .i64 n, .string _]) (by simp [results, Tryd.results13, go_sem, *]) rfl ⟨rfl, by repeat (first | exact Below.refl _ _ | refine bdrew ?_ | refine balloc _ ?_ | refine bset _ (by simp) ?_ | refine bstep (by assumption) ?_)⟩
def cut60 (s : ByteArray) : ByteArray := if 60 < s.size then s.extract 0 60 else s
theorem cut60_le (s : ByteArray) : (cut60 s).size ≤ 60 := by
  unfold cut60; split
  · simp; omega
  · omega
theorem behind_facts {x : Bool} {n : Int} {s r : ByteArray} (h0 : -9223372036854775808 ≤ n) (h1 : n ≤ 9223372036854775807) (h : V.May ⟨x, n, s.data.toList⟩) :
    ∃ T : ByteArray, ⟨(V.lay ⟨x, n, s.data.toList⟩).toArray⟩ = T ∧ 0 < T.size ∧ T.size ≤ 71 ∧ T.toList.isEmpty = false ∧ (T.toList == []) = false ∧ takeV (T ++ r).data.toList = (⟨x, n, s.data.toList⟩, T.size, 0) ∧ takeV (T.extract 0 (T.size - 1)).data.toList = (V.zero, 0, 3) := by
  have hle := lay_le _ h
  have hpos := lay_pos ⟨x, n, s.data.toList⟩
  have hsz : (⟨(V.lay ⟨x, n, s.data.toList⟩).toArray⟩ : ByteArray).size = (V.lay ⟨x, n, s.data.toList⟩).length := by simp [ByteArray.size]
  have hne : V.lay ⟨x, n, s.data.toList⟩ ≠ [] := by intro e; rw [e] at hpos; simp at hpos
  refine ⟨_, rfl, by omega, by omega, ?_, ?_, ?_, ?_⟩
  · rw [str_toList]; simpa using hne
  · rw [str_toList]; simpa using hne
  · rw [app_str, mk_str, take_lay _ h ⟨h0, h1⟩, hsz]
  · rw [sub_str, mk_str, hsz, List.drop_zero, take_short _ h _ (by omega)]
theorem valBehind_c (x : Bool) (n : Int) (s : ByteArray) (hs : s.size ≤ 9223372036854775807) (h0 : -9223372036854775808 ≤ n) (h1 : n ≤ 9223372036854775807) (r : ByteArray) (hr : r.size ≤ 9223372036854775807) (w : World) (hT : Tab w) :
    Calls Tryd.prog 8 #[.agg #[.bool x, .int .i64 n, .string s], .string r] w fun e w' => e = .returned (.bool true) ∧ Below w.heap.size w w' := by
  have HT := Lib.hid hT
  have hfl := few_le s
  have hcl := cut60_le r
  by_cases hm : V.May ⟨x, n, (few s).data.toList⟩
  · obtain ⟨T, hTe, hp, hle, he1, he2, ht1, ht2⟩ := behind_facts (r := cut60 r) h0 h1 hm
    have hTe2 := lay_yes (by omega : (few s).size ≤ 1000000000) h0 h1 hm
    rw [hTe] at hTe2
    have HL := Lib.hid hTe2
    have hc1 := take_c (T ++ cut60 r) (by simp; omega)
    rw [ht1] at hc1
    simp only [Array.toArray_toList] at hc1
    have HC1 := Lib.hid hc1
    have hc2 := take_c (T.extract 0 (T.size - 1)) (by simp; omega)
    rw [ht2] at hc2
    simp only [V.zero] at hc2
    have HC2 := Lib.hid hc2
    clear hTe2 hc1 hc2 ht1 ht2 hTe hm hT
    by_cases hr60 : 60 < r.size
    · have hcut : cut60 r = r.extract 0 60 := by unfold cut60; rw [if_pos hr60]
      rw [hcut] at HC1 hcl
      clear hcut
      go_enter Tryd.func8, Tryd.ntmps8
      go_wp2_with fail
      refine (fewAll_c x n s hs _).mono ?_
      rintro e w1 ⟨rfl, hb1⟩
      obtain ⟨hc1, hf1⟩ := bcell hb1
      have hz1 : w.heap.size < w1.heap.size := (by have := hb1.size; simp at this; omega)
      go_wp2_with fail
      refine (HL.out _).mono ?_
      rintro e w2 ⟨rfl, hb2⟩
      obtain ⟨hc2, hf2⟩ := bcell hb2
      have hz2 : w1.heap.size ≤ w2.heap.size := (by have := hb2.size; simp at this; omega)
      go_wp2_with fail
      refine (HC1.out _).mono ?_
      rintro e w3 ⟨rfl, hb3⟩
      obtain ⟨hc3, hf3⟩ := bcell hb3
      have hz3 : w2.heap.size ≤ w3.heap.size := (by have := hb3.size; (try simp at this); omega)
      go_wp2_with fail
      refine (HC2.out _).mono ?_
      rintro e w4 ⟨rfl, hb4⟩
      obtain ⟨hc4, hf4⟩ := bcell hb4
      have hz4 : w3.heap.size < w4.heap.size := (by have := hb4.size; simp at this; omega)
      have hB : Below w.heap.size w (w4.alloc (.cells #[.bool false, .int .i64 0, .string ⟨([] : List UInt8).toArray⟩] 23)) := by
        (repeat (first | exact Below.refl _ _ | assumption | refine bdrew ?_ | refine balloc _ ?_ | refine bset _ (by simp) ?_ | refine bstep (by assumption) ?_ | refine Grow.below (by assumption) ?_ | refine Tryst2.Grow.below (by assumption) ?_))
      have HT1 := Lib.hid (HT.out.grow hB)
      have k1 : w.heap.size < w2.heap.size := by omega
      have k2 : w.heap.size < w3.heap.size := by omega
      have k3 : w.heap.size < w4.heap.size := by omega
      have k4 : w.heap.size ≤ w3.heap.size := by omega
      have HB := Lib.hid hB
      clear hB hb1 hb2 hb3
      go_wp2_with fail
      refine (awake_c _ HT1.out).mono ?_
      rintro e w5 ⟨rfl, hb5⟩
      go_wp2_with fail
      go_ret
      exact ⟨rfl, bstep hb5 HB.out⟩
    · have hcut : cut60 r = r := by unfold cut60; rw [if_neg hr60]
      rw [hcut] at HC1 hcl
      clear hcut
      go_enter Tryd.func8, Tryd.ntmps8
      go_wp2_with fail
      refine (fewAll_c x n s hs _).mono ?_
      rintro e w1 ⟨rfl, hb1⟩
      obtain ⟨hc1, hf1⟩ := bcell hb1
      have hz1 : w.heap.size < w1.heap.size := (by have := hb1.size; simp at this; omega)
      go_wp2_with fail
      refine (HL.out _).mono ?_
      rintro e w2 ⟨rfl, hb2⟩
      obtain ⟨hc2, hf2⟩ := bcell hb2
      have hz2 : w1.heap.size ≤ w2.heap.size := (by have := hb2.size; simp at this; omega)
      go_wp2_with fail
      refine (HC1.out _).mono ?_
      rintro e w3 ⟨rfl, hb3⟩
      obtain ⟨hc3, hf3⟩ := bcell hb3
      have hz3 : w2.heap.size ≤ w3.heap.size := (by have := hb3.size; (try simp at this); omega)
      go_wp2_with fail
      refine (HC2.out _).mono ?_
      rintro e w4 ⟨rfl, hb4⟩
      obtain ⟨hc4, hf4⟩ := bcell hb4
      have hz4 : w3.heap.size < w4.heap.size := (by have := hb4.size; simp at this; omega)
      have hB : Below w.heap.size w (w4.alloc (.cells #[.bool false, .int .i64 0, .string ⟨([] : List UInt8).toArray⟩] 23)) := by
        (repeat (first | exact Below.refl _ _ | assumption | refine bdrew ?_ | refine balloc _ ?_ | refine bset _ (by simp) ?_ | refine bstep (by assumption) ?_ | refine Grow.below (by assumption) ?_ | refine Tryst2.Grow.below (by assumption) ?_))
      have HT1 := Lib.hid (HT.out.grow hB)
      have k1 : w.heap.size < w2.heap.size := by omega
      have k2 : w.heap.size < w3.heap.size := by omega
      have k3 : w.heap.size < w4.heap.size := by omega
      have k4 : w.heap.size ≤ w3.heap.size := by omega
      have HB := Lib.hid hB
      clear hB hb1 hb2 hb3
      go_wp2_with fail
      refine (awake_c _ HT1.out).mono ?_
      rintro e w5 ⟨rfl, hb5⟩
      go_wp2_with fail
      go_ret
      exact ⟨rfl, bstep hb5 HB.out⟩
  · have HN := Lib.hid (lay_no (by omega : (few s).size ≤ 1000000000) hm)
    clear hm hT
    by_cases hr60 : 60 < r.size
    all_goals
      go_enter Tryd.func8, Tryd.ntmps8
      go_wp2_with fail
      refine (fewAll_c x n s hs _).mono ?_
      rintro e w1 ⟨rfl, hb1⟩
      obtain ⟨hc1, hf1⟩ := bcell hb1
      have hz1 : w.heap.size < w1.heap.size := (by have := hb1.size; simp at this; omega)
      go_wp2_with fail
      refine (HN.out _).mono ?_
      rintro e w2 ⟨rfl, hb2⟩
      have hB : Below w.heap.size w w2 := by
        (repeat (first | exact Below.refl _ _ | assumption | refine bdrew ?_ | refine balloc _ ?_ | refine bset _ (by simp) ?_ | refine bstep (by assumption) ?_ | refine Grow.below (by assumption) ?_ | refine Tryst2.Grow.below (by assumption) ?_))
      have HT1 := Lib.hid (HT.out.grow hB)
      go_wp2_with fail
      refine (awake_c _ HT1.out).mono ?_
      rintro e w5 ⟨rfl, hb5⟩
      go_wp2_with fail
      go_ret
      exact ⟨rfl, bstep hb5 hB⟩
end Go.Proofs.YtmagghfegikidaaDoor
