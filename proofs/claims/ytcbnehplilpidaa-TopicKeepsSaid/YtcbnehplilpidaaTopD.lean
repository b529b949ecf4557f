/- The walks of topic.ask and topic.End. -/
import Derived.Test.YtcbnehplilpidaaProg
import Derived.WalkKit
import Derived.WalkSpells
import Derived.WalkLawsBesides
import Derived.Lib.Hide
import Derived.Deep.RegionWith
import Derived.Deep.Cut
import Derived.Test.YtcbnehplilpidaaTopC
set_option linter.unusedVariables false
set_option linter.unusedSimpArgs false
namespace Go.Proofs.Ytcbnehplilpidaa
open Go.RowKit Tryst
set_option maxHeartbeats 400000
set_option maxRecDepth 20000
def askP (L : List Tp) (n : ByteArray) : Nat × Nat := if topsMay L = true then match findT L n with | some i => (i, 0) | none => (0, 4) else (0, 1)
theorem askP_ok {L : List Tp} {n : ByteArray} {i : Nat} (h : topsMay L = true) (hf : findT L n = some i) : askP L n = (i, 0) := by unfold askP; rw [if_pos h, hf]
theorem askP_none {L : List Tp} {n : ByteArray} (h : topsMay L = true) (hf : findT L n = none) : askP L n = (0, 4) := by unfold askP; rw [if_pos h, hf]
theorem askP_bad {L : List Tp} {n : ByteArray} (h : topsMay L = false) : askP L n = (0, 1) := by unfold askP; rw [h]; rfl
theorem task_c (n : ByteArray) (a : Option Addr) (c : Nat) (l : List TB) (hl : l.length ≤ 1000000000) (hI : TIn l) (w : World) (hM : MaxW w) (hF : Tops w a l) :
    Calls Try.prog 59 #[.slice a l.length c, .string n] w fun e w' => e = .returned (.tuple #[.int .i64 (askP (l.map TB.tp) n).1, .int .i64 (askP (l.map TB.tp) n).2]) ∧ Below w.heap.size w w' := by
  have HC := Lib.hid (tcheck_c a c l hl hI w hM hF)
  have HFN := Lib.hid (fun (W : World) (h : Tops W a l) => tfind_c n a c l hl W h)
  have HF := Lib.hid hF
  obtain ⟨p, hp⟩ : ∃ p, askP (l.map TB.tp) n = p := ⟨_, rfl⟩
  rw [hp]
  have HP := Lib.hid hp
  clear hM hF hI hp
  cases hm : topsMay (l.map TB.tp) with
  | false =>
    obtain rfl : p = (0, 1) := HP.out.symm.trans (askP_bad hm)
    have HC2 := Lib.hid (hm ▸ HC.out)
    clear hm HC HP
    go_enter Try.func59, Try.ntmps59
    go_wp2_with fail
    refine HC2.out.mono ?_
    rintro e w1 ⟨rfl, hb⟩
    go_wp2_with fail
    go_ret2
    exact ⟨rfl, hb⟩
  | true =>
    have HC2 := Lib.hid (hm ▸ HC.out)
    cases hf : findT (l.map TB.tp) n with
    | none =>
      obtain rfl : p = (0, 4) := HP.out.symm.trans (askP_none hm hf)
      rw [hf] at HFN
      clear hm hf HC HP
      go_enter Try.func59, Try.ntmps59
      go_wp2_with fail
      refine HC2.out.mono ?_
      rintro e w1 ⟨rfl, hb⟩
      have HB := Lib.hid hb
      clear hb
      go_wp2_with fail
      refine (HFN.out w1 (HF.out.grow HB.out)).mono ?_
      rintro e w2 ⟨rfl, hb2⟩
      have HB2 := Lib.hid (bstep hb2 HB.out)
      clear hb2
      unfold findR
      go_wp2_with fail
      go_ret2
      exact ⟨rfl, HB2.out⟩
    | some i =>
      obtain rfl : p = (i, 0) := HP.out.symm.trans (askP_ok hm hf)
      rw [hf] at HFN
      clear hm hf HC HP
      go_enter Try.func59, Try.ntmps59
      go_wp2_with fail
      refine HC2.out.mono ?_
      rintro e w1 ⟨rfl, hb⟩
      have HB := Lib.hid hb
      clear hb
      go_wp2_with fail
      refine (HFN.out w1 (HF.out.grow HB.out)).mono ?_
      rintro e w2 ⟨rfl, hb2⟩
      have HB2 := Lib.hid (bstep hb2 HB.out)
      clear hb2
      unfold findR
      go_wp2_with fail
      go_ret2
      exact ⟨rfl, HB2.out⟩
/-- of topics that may be: the place of one of a name -/
theorem find_at {l : List TB} {n : ByteArray} {i : Nat} (hm : topsMay (l.map TB.tp) = true) (hf : findT (l.map TB.tp) n = some i) : ∃ hi : i < l.length, l[i].name = n ∧ tMay l[i].tp = true := by
  obtain ⟨hi, hn⟩ := findT_some hf
  have hi2 : i < l.length := by simpa using hi
  refine ⟨hi2, by rw [List.getElem_map] at hn; exact hn, ?_⟩
  unfold topsMay at hm
  rw [Bool.and_eq_true] at hm
  have := okT_mem hm.2 (l.map TB.tp)[i] (List.getElem_mem hi)
  rw [List.getElem_map] at this
  exact this
theorem tmay_parts {t : TB} (h : tMay t.tp = true) : 0 ≤ t.first ∧ t.log.length ≤ 100 ∧ t.first ≤ 1099511627775 - t.log.length ∧ ∀ s ∈ t.log, ofB s t.name = true := by
  rw [show tMay t.tp = _ from tMay_eq t.name t.first t.log] at h
  simp only [Bool.and_eq_true, decide_eq_true_eq, List.all_eq_true] at h
  exact ⟨h.2.1, h.2.2.1, h.2.2.2.1, h.2.2.2.2⟩
def endP (L : List Tp) (n : ByteArray) : Int × Nat := if topsMay L = true then match findT L n with | some i => (((L[i]?).map fun t : Tp => t.first + (t.log.length : Int)).getD 0, 0) | none => (0, 4) else (0, 1)
theorem tEnd_c (n : ByteArray) (a : Option Addr) (c : Nat) (l : List TB) (hl : l.length ≤ 1000000000) (hI : TIn l) (w : World) (hM : MaxW w) (hF : Tops w a l) :
    Calls Try.prog 37 #[.slice a l.length c, .string n] w fun e w' => e = .returned (.tuple #[.int .i64 (endP (l.map TB.tp) n).1, .int .i64 (endP (l.map TB.tp) n).2]) ∧ Below w.heap.size w w' := by
  have HC := Lib.hid (task_c n a c l hl hI w hM hF)
  have HF := Lib.hid hF
  obtain ⟨p, hp⟩ : ∃ p, endP (l.map TB.tp) n = p := ⟨_, rfl⟩
  rw [hp]
  have HP := Lib.hid hp
  clear hM hF hI hp
  cases hm : topsMay (l.map TB.tp) with
  | false =>
    obtain rfl : p = (0, 1) := HP.out.symm.trans (by unfold endP; rw [hm]; rfl)
    have HC2 := Lib.hid (askP_bad (n := n) hm ▸ HC.out)
    clear hm HC HP
    go_enter Try.func37, Try.ntmps37
    go_wp2_with fail
    refine HC2.out.mono ?_
    rintro e w1 ⟨rfl, hb⟩
    go_wp2_with fail
    go_ret2
    exact ⟨rfl, hb⟩
  | true =>
    cases hf : findT (l.map TB.tp) n with
    | none =>
      obtain rfl : p = (0, 4) := HP.out.symm.trans (by unfold endP; rw [if_pos hm, hf])
      have HC2 := Lib.hid (askP_none hm hf ▸ HC.out)
      clear hm hf HC HP
      go_enter Try.func37, Try.ntmps37
      go_wp2_with fail
      refine HC2.out.mono ?_
      rintro e w1 ⟨rfl, hb⟩
      go_wp2_with fail
      go_ret2
      exact ⟨rfl, hb⟩
    | some i =>
      obtain ⟨hi, hn, ht⟩ := find_at hm hf
      obtain ⟨q1, q2, q3, _⟩ := tmay_parts ht
      obtain rfl : p = (l[i].first + l[i].log.length, 0) := HP.out.symm.trans (by
        unfold endP
        rw [if_pos hm, hf]
        show (((l.map TB.tp)[i]?.map _).getD 0, 0) = _
        rw [List.getElem?_map, List.getElem?_eq_getElem hi]
        rfl)
      have HC2 := Lib.hid (askP_ok hm hf ▸ HC.out)
      clear hm hf HC HP hn ht
      obtain ⟨b, o, ha, hb⟩ := HF.out.head hi
      subst ha
      go_enter Try.func37, Try.ntmps37
      go_wp2_with fail
      refine HC2.out.mono ?_
      rintro e w1 ⟨rfl, hb1⟩
      have HF1 := Lib.hid (HF.out.grow hb1)
      have HB1 := Lib.hid hb1
      have hz : b < w1.heap.size := Nat.lt_of_lt_of_le hb hb1.size
      clear hb1 HF
      obtain ⟨_, ⟨f0, f1, f2⟩, _⟩ := HF1.out.at hi
      have y1 : ¬ ((i : Int) < 0) := by omega
      go_wp2_with fail
      refine (tend_c l[i] q1 (by omega) (by omega) w1).mono ?_
      rintro e w2 ⟨rfl, hb2⟩
      have HB2 := Lib.hid (bstep hb2 HB1.out)
      clear hb2
      go_wp2_with fail
      go_ret2
      exact ⟨rfl, HB2.out⟩
end Go.Proofs.Ytcbnehplilpidaa
