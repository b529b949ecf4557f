/- The walks of ev and awake of chapter 12. -/
import Derived.Test.YtcbnehplilpidaaProg
import Derived.WalkKit
import Derived.WalkSpells
import Derived.WalkLawsBesides
import Derived.Lib.Hide
import Derived.Deep.RegionWith
import Derived.Deep.Cut
import Derived.IntWalk
import Derived.Test.YtcbnehplilpidaaTopN
import Derived.Test.YtcbnehplilpidaaTopE
set_option linter.unusedVariables false
set_option linter.unusedSimpArgs false
namespace Go.Proofs.Ytcbnehplilpidaa
open Go.RowKit Tryst
set_option maxHeartbeats 400000
set_option maxRecDepth 20000
theorem ev12_c (n : ByteArray) (q : Int) (w : World) :
    Calls Try.prog 65 #[.string n, .int .u64 q] w fun e w' => e = .returned (.agg #[.string n, .string ⟨#[112]⟩, .int .u64 q, .slice none 0 0]) ∧ Below w.heap.size w w' := by
  go_enter Try.func65, Try.ntmps65
  go_wp2_with fail
  exact bodyPost_ret (v := .agg #[.string n, .string ⟨#[112]⟩, .int .u64 q, .slice none 0 0]) (by simp [results, Try.results65, go_sem, *]) rfl ⟨rfl, by repeat (first | exact Below.refl _ _ | refine bdrew ?_ | refine balloc _ ?_ | refine bset _ (by simp) ?_ | refine bstep (by assumption) ?_)⟩
def awS (x : UInt8) (q : Int) : ByteArray := ⟨(evE ⟨#[x]⟩ ⟨#[112]⟩ q []).lay.toArray⟩
def awT1 : List Tp := [⟨⟨#[97]⟩, 0, [awS 97 1]⟩]
def awT2 : List Tp := [⟨⟨#[97]⟩, 0, [awS 97 1, awS 97 2]⟩]
def awT3 : List Tp := [⟨⟨#[97]⟩, 0, [awS 97 1, awS 97 2]⟩, ⟨⟨#[98]⟩, 0, [awS 98 3]⟩]
def awT4 : List Tp := [⟨⟨#[97]⟩, 1, [awS 97 2]⟩, ⟨⟨#[98]⟩, 0, [awS 98 3]⟩]
theorem aw1 : appP [] (evMay ⟨#[97]⟩ ⟨#[112]⟩ 1 []) ⟨#[97]⟩ (awS 97 1) = (awT1, 0, 0) := by kernel_rfl
theorem aw2 : appP awT1 (evMay ⟨#[97]⟩ ⟨#[112]⟩ 2 []) ⟨#[97]⟩ (awS 97 2) = (awT2, 1, 0) := by kernel_rfl
theorem aw3 : appP awT2 (evMay ⟨#[98]⟩ ⟨#[112]⟩ 3 []) ⟨#[98]⟩ (awS 98 3) = (awT3, 0, 0) := by kernel_rfl
theorem aw4 : readP awT3 ⟨#[97]⟩ 2 = (Ev.zero, 9) := by kernel_rfl
theorem aw5 : trimP awT3 ⟨#[97]⟩ 1 = (awT4, 0) := by kernel_rfl
theorem aw6 : readP awT4 ⟨#[97]⟩ 0 = (Ev.zero, 8) := by kernel_rfl
def TpIn (t : Tp) : Prop := t.name.size ≤ 1000000000 ∧ (∀ s ∈ t.log, s.size ≤ 1000000000) ∧ t.log.length ≤ 1000000000 ∧ -9223372036854775808 ≤ t.first ∧ t.first ≤ 9223372036854775807
theorem TIn.of {l : List TB} {L : List Tp} (h : l.map TB.tp = L) (hL : ∀ t ∈ L, TpIn t) : TIn l := fun t ht => by
  have := hL t.tp (by rw [← h]; exact List.mem_map.2 ⟨t, ht, rfl⟩)
  exact this
instance (t : Tp) : Decidable (TpIn t) := by unfold TpIn; infer_instance
theorem awI1 : ∀ t ∈ awT1, TpIn t := by decide +kernel
theorem awI2 : ∀ t ∈ awT2, TpIn t := by decide +kernel
theorem awI3 : ∀ t ∈ awT3, TpIn t := by decide +kernel
theorem awI4 : ∀ t ∈ awT4, TpIn t := by decide +kernel
theorem app_at {p : List Tp × Int × Nat} {w w' : World} {e : Ending} (h : AppR w p e w') : ∃ a c l', e = .returned (.tuple #[.slice a l'.length c, .int .i64 p.2.1, .int .i64 p.2.2]) ∧ l'.map TB.tp = p.1 ∧ Tops w' a l' ∧ Sl a c l'.length ∧ Below w.heap.size w w' := by
  obtain ⟨a, c, l', h1, h2, h3, h4, h5⟩ := h
  have : p.1.length = l'.length := by rw [← h2, List.length_map]
  rw [this] at h1 h4
  exact ⟨a, c, l', h1, h2, h3, h4, h5⟩
theorem tops_at {p : List Tp × Nat} {w w' : World} {e : Ending} (h : TopsR w p e w') : ∃ a c l', e = .returned (.tuple #[.slice a l'.length c, .int .i64 p.2]) ∧ l'.map TB.tp = p.1 ∧ Tops w' a l' ∧ Sl a c l'.length ∧ Below w.heap.size w w' := by
  obtain ⟨a, c, l', h1, h2, h3, h4, h5⟩ := h
  have : p.1.length = l'.length := by rw [← h2, List.length_map]
  rw [this] at h1 h4
  exact ⟨a, c, l', h1, h2, h3, h4, h5⟩
theorem awApp (a : Option Addr) (c : Nat) (l : List TB) (hl : l.length ≤ 1000000) {L : List Tp} (hL : l.map TB.tp = L) (hI : ∀ t ∈ L, TpIn t) (x : UInt8) (q : Int) (h0 : 0 ≤ q) (h4 : q ≤ 18446744073709551615) {p : List Tp × Int × Nat} (hp : appP L (evMay ⟨#[x]⟩ ⟨#[112]⟩ q []) ⟨#[x]⟩ (awS x q) = p) (w : World) (hM : MaxW w) (hF : Tops w a l) (hS : Sl a c l.length) :
    Calls Try.prog 31 #[.slice a l.length c, .agg #[.string ⟨#[x]⟩, .string ⟨#[112]⟩, .int .u64 q, .slice none 0 0]] w fun e w' => AppR w p e w' := by
  have h := tappend_c a c l hl (TIn.of hL hI) ⟨#[x]⟩ ⟨#[112]⟩ q none [] 0 (show 1 ≤ 1000000000 by omega) (show 1 ≤ 1000000000 by omega) h0 h4 (by simp) (fun f hf => by cases hf) w hM hF hS (Flds.nil _ _)
  rw [hL] at h
  have hp' : appP L (evMay ⟨#[x]⟩ ⟨#[112]⟩ q []) ⟨#[x]⟩ ⟨(evE ⟨#[x]⟩ ⟨#[112]⟩ q []).lay.toArray⟩ = p := hp
  rw [hp'] at h
  exact h
theorem awRead (a : Option Addr) (c : Nat) (l : List TB) (hl : l.length ≤ 1000000) {L : List Tp} (hL : l.map TB.tp = L) (hI : ∀ t ∈ L, TpIn t) (x : UInt8) (q : Int) (h1 : -9223372036854775808 ≤ q) (h2 : q ≤ 9223372036854775807) {k : Nat} (hp : readP L ⟨#[x]⟩ q = (Ev.zero, k)) (w : World) (hM : MaxW w) (hF : Tops w a l) :
    Calls Try.prog 25 #[.slice a l.length c, .string ⟨#[x]⟩, .int .i64 q] w fun e w' => ∃ a c, e = .returned (.tuple #[.agg #[.string ⟨#[]⟩, .string ⟨#[]⟩, .int .u64 0, .slice a 0 c], .int .i64 k]) ∧ Below w.heap.size w w' := by
  have h := tread_c ⟨#[x]⟩ q h1 h2 a c l (by omega) (TIn.of hL hI) w hM hF
  rw [hL, hp] at h
  refine h.mono fun e w' ⟨a, c, h1, _, _, h4⟩ => ⟨a, c, h1, h4⟩
theorem awake12_c (w : World) (hM : MaxW w) : Calls Try.prog 30 #[] w fun e w' => e = .returned (.bool true) ∧ Below w.heap.size w w' := by
  have HM := Lib.hid hM
  clear hM
  have H1 := Lib.hid (fun W hM => awApp none 0 [] (by simp) rfl (fun t ht => by cases ht) 97 1 (by omega) (by omega) aw1 W hM (Tops.nil _ _) ⟨Nat.le_refl _, fun A h => (by cases h), fun _ => rfl⟩)
  go_enter Try.func30, Try.ntmps30
  go_wp2_with fail
  refine (ev12_c _ _ _).mono ?_
  rintro e w1 ⟨rfl, hb1⟩
  have HB1 := Lib.hid hb1
  clear hb1
  go_wp2_with fail
  refine (H1.out w1 (HM.out.grow HB1.out)).mono ?_
  rintro e w2 h
  obtain ⟨a2, c2, l2, rfl, hl2, hF2, hS2, hb2⟩ := app_at h
  have HB2 := Lib.hid (bstep hb2 HB1.out)
  have hn2 : l2.length ≤ 1000000 := by
    have := congrArg List.length hl2
    simp [awT1] at this; omega
  have HF2 := Lib.hid hF2
  have H2 := Lib.hid (fun W hM hF => awApp a2 c2 l2 hn2 hl2 awI1 97 2 (by omega) (by omega) aw2 W hM hF hS2)
  clear h hl2 hF2 hb2 H1
  go_wp2_with fail
  refine (ev12_c _ _ _).mono ?_
  rintro e w3 ⟨rfl, hb3⟩
  have HB3 := Lib.hid (bstep hb3 HB2.out)
  have HF3 := Lib.hid (HF2.out.grow hb3)
  clear hb3
  go_wp2_with fail
  refine (H2.out w3 (HM.out.grow HB3.out) HF3.out).mono ?_
  rintro e w4 h
  obtain ⟨a4, c4, l4, rfl, hl4, hF4, hS4, hb4⟩ := app_at h
  have HB4 := Lib.hid (bstep hb4 HB3.out)
  have hn4 : l4.length ≤ 1000000 := by
    have := congrArg List.length hl4
    simp [awT2] at this; omega
  have HF4 := Lib.hid hF4
  have H3 := Lib.hid (fun W hM hF => awApp a4 c4 l4 hn4 hl4 awI2 98 3 (by omega) (by omega) aw3 W hM hF hS4)
  clear h hl4 hF4 hb4 H2 HF2 HF3 HB1 HB2 HB3 hS2 hn2
  go_wp2_with fail
  refine (ev12_c _ _ _).mono ?_
  rintro e w5 ⟨rfl, hb5⟩
  have HB5 := Lib.hid (bstep hb5 HB4.out)
  have HF5 := Lib.hid (HF4.out.grow hb5)
  clear hb5
  go_wp2_with fail
  refine (H3.out w5 (HM.out.grow HB5.out) HF5.out).mono ?_
  rintro e w6 h
  obtain ⟨a6, c6, l6, rfl, hl6, hF6, hS6, hb6⟩ := app_at h
  have HB6 := Lib.hid (bstep hb6 HB5.out)
  have hn6 : l6.length ≤ 1000000 := by
    have := congrArg List.length hl6
    simp [awT3] at this; omega
  have HF6 := Lib.hid hF6
  have H4 := Lib.hid (fun W hM hF => awRead a6 c6 l6 hn6 hl6 awI3 97 2 (by omega) (by omega) aw4 W hM hF)
  have H5 := Lib.hid (fun W hM hF => hl6 ▸ ttrim_c ⟨#[97]⟩ 1 (by omega) (by omega) a6 c6 l6 (by omega) (TIn.of hl6 awI3) W hM hF hS6)
  clear h hl6 hF6 hb6 H3 HF4 HF5 HB4 HB5 hS4 hn4
  rw [aw5] at H5
  go_wp2_with fail
  refine (H4.out w6 (HM.out.grow HB6.out) HF6.out).mono ?_
  rintro e w7 ⟨a7, c7, rfl, hb7⟩
  have HB7 := Lib.hid (bstep hb7 HB6.out)
  have HF7 := Lib.hid (HF6.out.grow hb7)
  clear hb7
  go_upto_region 5 with fail
  refine wp_genC (fun v => Hid (Tops v a6 l6) ∧ Hid (Below w.heap.size w v)) ⟨HF7.out.grow (balloc _ (.refl _ _)), balloc _ HB7.out⟩ ?_
  rintro w8 ⟨HF8, HB8⟩
  go_wp2_with fail
  refine (H5.out w8 (HM.out.grow HB8.out) HF8.out).mono ?_
  rintro e w9 h
  obtain ⟨a9, c9, l9, rfl, hl9, hF9, hS9, hb9⟩ := tops_at h
  have HB9 := Lib.hid (bstep hb9 HB8.out)
  have hn9 : l9.length ≤ 1000000 := by
    have := congrArg List.length hl9
    simp [awT4] at this; omega
  have HF9 := Lib.hid hF9
  have H6 := Lib.hid (fun W hM hF => awRead a9 c9 l9 hn9 hl9 awI4 97 0 (by omega) (by omega) aw6 W hM hF)
  clear h hl9 hF9 hb9 H4 H5 HF6 HF7 HF8 HB6 HB7 HB8 hS6 hn6
  go_wp2_with fail
  refine (H6.out w9 (HM.out.grow HB9.out) HF9.out).mono ?_
  rintro e w10 ⟨a10, c10, rfl, hb10⟩
  have HB10 := Lib.hid (bstep hb10 HB9.out)
  clear hb10
  go_wp2_with fail
  go_ret
  exact ⟨rfl, balloc _ HB10.out⟩
end Go.Proofs.Ytcbnehplilpidaa
