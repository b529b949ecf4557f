/- The walk of event.May. -/
import Derived.Test.YtfohdjgalmodbaaProg
import Derived.WalkKit
import Derived.WalkSpells
import Derived.WalkLawsBesides
import Derived.Lib.Hide
import Derived.Deep.RegionWith
import Derived.Deep.Cut
import Derived.Test.YtfohdjgalmodbaaEv13
set_option linter.unusedVariables false
set_option linter.unusedSimpArgs false
namespace Go.Proofs.Ytfohdjgalmodbaa
open Go.RowKit Tryst
set_option maxHeartbeats 400000
set_option maxRecDepth 20000
theorem evmay_c (t p : ByteArray) (q : Int) (a : Option Addr) (c : Nat) (l : List FB) (hl : l.length ≤ 1000000000) (ht : t.size ≤ 1000000000) (hp : p.size ≤ 1000000000) (hs : ∀ f ∈ l, f.name.size ≤ 1000000000 ∧ f.s.size ≤ 1000000000) (w : World) (hM : MaxW w) (hF : Flds w a l)
    (h0 : 0 ≤ q) (h4 : q ≤ 18446744073709551615) :
    Calls Try.prog 18 #[.agg #[.string t, .string p, .int .u64 q, .slice a l.length c]] w fun e w' => e = .returned (.bool (evMay t p q l)) ∧ Below w.heap.size w w' := by
  cases h1 : topicB t.data.toList with
  | false =>
    have HR : Hid (evMay t p q l = false) := by show evMay t p q l = false; unfold evMay; rw [h1]; rfl
    have HM := Lib.hid hM
    have G1 := Lib.hid h1
    clear hF hM hs h1
    go_enter Try.func18, Try.ntmps18
    go_wp2_with fail
    refine (topic_c t ht _ (HM.out.grow (balloc _ (.refl _ _)))).mono ?_
    rintro e w1 ⟨rfl, hb1⟩
    rw [G1.out]
    have HB1 := Lib.hid (bstep hb1 (balloc (.cells #[.string t, .string p, .int .u64 q, .slice a l.length c] 25) (.refl w.heap.size w)))
    clear hb1
    go_wp2_with fail
    go_ret
    exact ⟨ret_bool HR.out.symm, HB1.out⟩
  | true =>
    cases h2 : fieldB p.data.toList with
    | false =>
      have HR : Hid (evMay t p q l = false) := by show evMay t p q l = false; unfold evMay; rw [h1, h2]; rfl
      have HM := Lib.hid hM
      have G1 := Lib.hid h1
      have G2 := Lib.hid h2
      clear hF hM hs h1 h2
      go_enter Try.func18, Try.ntmps18
      go_wp2_with fail
      refine (topic_c t ht _ (HM.out.grow (balloc _ (.refl _ _)))).mono ?_
      rintro e w1 ⟨rfl, hb1⟩
      rw [G1.out]
      obtain ⟨hc1, hf1⟩ := bcell hb1
      have hz1 : w.heap.size < w1.heap.size := (by have := hb1.size; simp at this; omega)
      have KB1 := bstep hb1 (balloc (.cells #[.string t, .string p, .int .u64 q, .slice a l.length c] 25) (.refl w.heap.size w))
      have HB1 := Lib.hid KB1
      clear hb1 KB1
      go_wp2_with fail
      refine (field_c p hp _ (HM.out.grow HB1.out)).mono ?_
      rintro e w2 ⟨rfl, hb2⟩
      rw [G2.out]
      obtain ⟨hc2, hf2⟩ := bcell hb2
      have hz2 : w1.heap.size ≤ w2.heap.size := hb2.size
      have e3 : w2.cell? ⟨w.heap.size, 3, none⟩ = some (.slice a l.length c) := by
        rw [hc2 _ _ hz1, hc1 _ _ (by simp)]; simp [go_sem]
      have e2 : w2.cell? ⟨w.heap.size, 2, none⟩ = some (.int .u64 q) := by
        rw [hc2 _ _ hz1, hc1 _ _ (by simp)]; simp [go_sem]
      have HB2 := Lib.hid (bstep hb2 HB1.out)
      have hwz : w.heap.size < w2.heap.size := by omega
      clear hb2 hc1 hf1 hc2 hf2 HB1
      go_wp2_with fail
      go_ret
      exact ⟨ret_bool HR.out.symm, HB2.out⟩
    | true =>
      by_cases hq : 1 ≤ q
      · by_cases hl8 : l.length ≤ 8
        · have HR : Hid (evMay t p q l = okF none (l.map FB.fld)) := by
            show evMay t p q l = _
            unfold evMay; rw [h1, h2, decide_eq_true hq, decide_eq_true hl8]; rfl
          rw [HR.out]
          exact evmay_loop t p q a c l hl8 ht hp hs w hM hF h1 h2 hq h4
        · have HR : Hid (evMay t p q l = false) := by show evMay t p q l = false; unfold evMay; rw [decide_eq_false hl8]; simp
          have HM := Lib.hid hM
          have G1 := Lib.hid h1
          have G2 := Lib.hid h2
          clear hF hM hs h1 h2
          go_enter Try.func18, Try.ntmps18
          go_wp2_with fail
          refine (topic_c t ht _ (HM.out.grow (balloc _ (.refl _ _)))).mono ?_
          rintro e w1 ⟨rfl, hb1⟩
          rw [G1.out]
          obtain ⟨hc1, hf1⟩ := bcell hb1
          have hz1 : w.heap.size < w1.heap.size := (by have := hb1.size; simp at this; omega)
          have KB1 := bstep hb1 (balloc (.cells #[.string t, .string p, .int .u64 q, .slice a l.length c] 25) (.refl w.heap.size w))
          have HB1 := Lib.hid KB1
          clear hb1 KB1
          go_wp2_with fail
          refine (field_c p hp _ (HM.out.grow HB1.out)).mono ?_
          rintro e w2 ⟨rfl, hb2⟩
          rw [G2.out]
          obtain ⟨hc2, hf2⟩ := bcell hb2
          have hz2 : w1.heap.size ≤ w2.heap.size := hb2.size
          have e3 : w2.cell? ⟨w.heap.size, 3, none⟩ = some (.slice a l.length c) := by
            rw [hc2 _ _ hz1, hc1 _ _ (by simp)]; simp [go_sem]
          have e2 : w2.cell? ⟨w.heap.size, 2, none⟩ = some (.int .u64 q) := by
            rw [hc2 _ _ hz1, hc1 _ _ (by simp)]; simp [go_sem]
          have HB2 := Lib.hid (bstep hb2 HB1.out)
          have hwz : w.heap.size < w2.heap.size := by omega
          clear hb2 hc1 hf1 hc2 hf2 HB1
          go_wp2_with fail
          go_ret
          exact ⟨ret_bool HR.out.symm, HB2.out⟩
      · have HR : Hid (evMay t p q l = false) := by show evMay t p q l = false; unfold evMay; rw [decide_eq_false hq]; simp
        have HM := Lib.hid hM
        have G1 := Lib.hid h1
        have G2 := Lib.hid h2
        clear hF hM hs h1 h2
        go_enter Try.func18, Try.ntmps18
        go_wp2_with fail
        refine (topic_c t ht _ (HM.out.grow (balloc _ (.refl _ _)))).mono ?_
        rintro e w1 ⟨rfl, hb1⟩
        rw [G1.out]
        obtain ⟨hc1, hf1⟩ := bcell hb1
        have hz1 : w.heap.size < w1.heap.size := (by have := hb1.size; simp at this; omega)
        have KB1 := bstep hb1 (balloc (.cells #[.string t, .string p, .int .u64 q, .slice a l.length c] 25) (.refl w.heap.size w))
        have HB1 := Lib.hid KB1
        clear hb1 KB1
        go_wp2_with fail
        refine (field_c p hp _ (HM.out.grow HB1.out)).mono ?_
        rintro e w2 ⟨rfl, hb2⟩
        rw [G2.out]
        obtain ⟨hc2, hf2⟩ := bcell hb2
        have hz2 : w1.heap.size ≤ w2.heap.size := hb2.size
        have e3 : w2.cell? ⟨w.heap.size, 3, none⟩ = some (.slice a l.length c) := by
          rw [hc2 _ _ hz1, hc1 _ _ (by simp)]; simp [go_sem]
        have e2 : w2.cell? ⟨w.heap.size, 2, none⟩ = some (.int .u64 q) := by
          rw [hc2 _ _ hz1, hc1 _ _ (by simp)]; simp [go_sem]
        have HB2 := Lib.hid (bstep hb2 HB1.out)
        have hwz : w.heap.size < w2.heap.size := by omega
        clear hb2 hc1 hf1 hc2 hf2 HB1
        go_wp2_with fail
        go_ret
        exact ⟨ret_bool HR.out.symm, HB2.out⟩
end Go.Proofs.Ytfohdjgalmodbaa
