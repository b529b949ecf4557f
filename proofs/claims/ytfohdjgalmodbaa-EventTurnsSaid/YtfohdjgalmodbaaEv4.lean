/- The walks of find and Get. -/
import Derived.Test.YtfohdjgalmodbaaProg
import Derived.WalkKit
import Derived.WalkSpells
import Derived.WalkLawsBesides
import Derived.Lib.Hide
import Derived.Deep.RegionWith
import Derived.Deep.Cut
import Derived.Test.YtfohdjgalmodbaaOwnF
import Derived.Test.YtfohdjgalmodbaaEv1
import Derived.Test.YtfohdjgalmodbaaEv2
set_option linter.unusedVariables false
set_option linter.unusedSimpArgs false
namespace Go.Proofs.Ytfohdjgalmodbaa
open Go.RowKit Tryst
set_option maxHeartbeats 400000
set_option maxRecDepth 20000
theorem idx_cases (l : List FB) (n : ByteArray) : (∃ (k : Nat) (h : k < l.length), idxB (fun f => f.name.toList == n.toList) l = k ∧ findB l n = some l[k]) ∨ (idxB (fun f => f.name.toList == n.toList) l = -1 ∧ findB l n = none) := by
  have e : ∀ f : FB, (f.name.toList == n.toList) = decide (f.name.data.toList = n.data.toList) := fun f => by
    by_cases h : f.name.data.toList = n.data.toList
    · rw [strEq h, decide_eq_true h]
    · rw [strNe h, decide_eq_false h]
  unfold idxB findB
  simp only [e]
  cases h : l.findIdx? (fun f => decide (f.name.data.toList = n.data.toList)) with
  | none =>
    refine .inr ⟨rfl, ?_⟩
    rw [List.find?_eq_none]
    intro x hx
    have := List.findIdx?_eq_none_iff.1 h x hx
    simpa using this
  | some k =>
    obtain ⟨hk, h1, h2⟩ := List.findIdx?_eq_some_iff_getElem.1 h
    refine .inl ⟨k, hk, rfl, ?_⟩
    rw [List.find?_eq_some_iff_getElem]
    exact ⟨h1, k, hk, rfl, fun j hj => by simpa using h2 j hj⟩
theorem find_c (t p : ByteArray) (q : Int) (a : Option Addr) (c : Nat) (l : List FB) (hl : l.length ≤ 1000000000) (n : ByteArray) (w : World) (hF : Flds w a l) :
    Calls Try.prog 26 #[.agg #[.string t, .string p, .int .u64 q, .slice a l.length c], .string n] w fun e w' =>
      e = .returned (.int .i64 (idxB (fun f => f.name.toList == n.toList) l)) ∧ Below w.heap.size w w' := by
  have HF := Lib.hid hF
  clear hF
  go_enter Try.func26, Try.ntmps26
  go_wp2_with fail
  have HF2 := HF.out.grow (balloc (.cells #[.string n] 9) (balloc (.cells #[.string t, .string p, .int .u64 q, .slice a l.length c] 25) (.refl w.heap.size w)))
  refine (indexName_c n ⟨w.heap.size + 1, 0, none⟩ a c l hl _ HF2 (by simp [go_sem]) (by simp)).mono ?_
  rintro e w1 ⟨rfl, hb1⟩
  go_wp2_with fail
  go_ret
  refine ⟨rfl, ?_⟩
  (repeat (first | exact Below.refl _ _ | assumption | refine bdrew ?_ | refine balloc _ ?_ | refine bset _ (by simp) ?_ | refine bstep (by assumption) ?_ | refine Grow.below (by assumption) ?_ | refine Tryst2.Grow.below (by assumption) ?_))
theorem get_c (t p : ByteArray) (q : Int) (a : Option Addr) (c : Nat) (l : List FB) (hl : l.length ≤ 1000000000) (n : ByteArray) (w : World) (hF : Flds w a l) :
    Calls Try.prog 12 #[.agg #[.string t, .string p, .int .u64 q, .slice a l.length c], .string n] w fun e w' =>
      e = .returned (.tuple #[vV ((findB l n).getD FB.zero), .bool (findB l n).isSome]) ∧ Below w.heap.size w w' := by
  have HF := Lib.hid hF
  clear hF
  rcases idx_cases l n with ⟨k, hk, h1, h2⟩ | ⟨h1, h2⟩
  · obtain ⟨b, o, ha, hb⟩ := HF.out.head hk
    subst ha
    have HFA := Lib.hid (HF.out.at hk).2
    have H1 := Lib.hid h1
    have H2 := Lib.hid h2
    clear h1 h2
    go_enter Try.func12, Try.ntmps12
    go_wp2_with fail
    have HF2 := HF.out.grow (balloc (.cells #[.bool false, .int .i64 0, .string ⟨#[]⟩] 27) (balloc (.cells #[.string t, .string p, .int .u64 q, .slice (some ⟨b, o, none⟩) l.length c] 25) (.refl w.heap.size w)))
    refine (find_c t p q _ c l hl n _ HF2).mono ?_
    rintro e w1 ⟨rfl, hb1⟩
    rw [H1.out]
    obtain ⟨hc1, hf1⟩ := bcell hb1
    have hz1 : w.heap.size + 1 < w1.heap.size := (by have := hb1.size; simp at this; omega)
    have hbw := bstep hb1 (balloc (.cells #[.bool false, .int .i64 0, .string ⟨#[]⟩] 27) (balloc (.cells #[.string t, .string p, .int .u64 q, .slice (some ⟨b, o, none⟩) l.length c] 25) (.refl w.heap.size w)))
    obtain ⟨f0, f1, f2, f3⟩ := HFA.out.grow hb hbw
    have x1 : (0 : Int) ≤ k := by omega
    have hb' : b < w1.heap.size := by omega
    have HB := Lib.hid hbw
    clear hb1 hbw
    go_wp2_with fail
    exact bodyPost_ret (v := .tuple #[.agg #[.bool l[k].num, .int .i64 l[k].n, .string l[k].s], .bool true]) (by simp [results, Try.results12, go_sem, *]) rfl ⟨ret_eq (by rw [H2.out]; rfl), bset _ (by simp) (bset _ (by simp) (bset _ (by simp) HB.out))⟩
  · have H1 := Lib.hid h1
    have H2 := Lib.hid h2
    clear h1 h2
    go_enter Try.func12, Try.ntmps12
    go_wp2_with fail
    have HF2 := HF.out.grow (balloc (.cells #[.bool false, .int .i64 0, .string ⟨#[]⟩] 27) (balloc (.cells #[.string t, .string p, .int .u64 q, .slice a l.length c] 25) (.refl w.heap.size w)))
    refine (find_c t p q _ c l hl n _ HF2).mono ?_
    rintro e w1 ⟨rfl, hb1⟩
    rw [H1.out]
    obtain ⟨hc1, hf1⟩ := bcell hb1
    have hz1 : w.heap.size + 1 < w1.heap.size := (by have := hb1.size; simp at this; omega)
    have HB := Lib.hid (bstep hb1 (balloc (.cells #[.bool false, .int .i64 0, .string ⟨#[]⟩] 27) (balloc (.cells #[.string t, .string p, .int .u64 q, .slice a l.length c] 25) (.refl w.heap.size w))))
    clear hb1
    go_wp2_with fail
    exact bodyPost_ret (v := .tuple #[.agg #[.bool false, .int .i64 0, .string ⟨#[]⟩], .bool false]) (by simp [results, Try.results12, go_sem, *]) rfl ⟨ret_eq (by rw [H2.out]; rfl), bset _ (by simp) (bset _ (by simp) (bset _ (by simp) HB.out))⟩
end Go.Proofs.Ytfohdjgalmodbaa
