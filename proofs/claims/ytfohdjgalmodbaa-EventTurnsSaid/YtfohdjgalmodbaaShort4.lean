/- The walk of EventShort. -/
import Derived.Test.YtfohdjgalmodbaaProg
import Derived.WalkKit
import Derived.WalkSpells
import Derived.WalkLawsBesides
import Derived.Lib.Hide
import Derived.Deep.RegionWith
import Derived.Deep.Cut
import Derived.Test.YtfohdjgalmodbaaAw4
import Derived.Test.YtfohdjgalmodbaaEv11
import Derived.Test.YtfohdjgalmodbaaOpen4
set_option linter.unusedVariables false
set_option linter.unusedSimpArgs false
namespace Go.Proofs.Ytfohdjgalmodbaa
open Go.RowKit Tryst
set_option maxHeartbeats 400000
set_option maxRecDepth 20000
theorem few_ok {l : List FB} (h : FIn l) : FOk (fewL l) ∧ (∀ f ∈ fewL l, f.name.size ≤ 60 ∧ f.s.size ≤ 70) ∧ (fewL l).length ≤ 10 := by
  refine ⟨fun f hf => ?_, fun f hf => ?_, by unfold fewL; rw [List.length_map, List.length_take]; omega⟩
  · obtain ⟨g, hg, rfl⟩ := List.mem_map.1 hf
    have h1 := h g (List.mem_of_mem_take hg)
    have h2 := few60_le g.name
    have h3 := few_le g.s
    exact ⟨by show (few60 g.name).size ≤ _; omega, by show (few g.s).size ≤ _; omega, h1.2.2.1, h1.2.2.2⟩
  · obtain ⟨g, hg, rfl⟩ := List.mem_map.1 hf
    exact ⟨few60_le g.name, few_le g.s⟩
theorem few_in {l : List FB} (h : FIn l) : ∀ f ∈ l, f.name.size ≤ 9223372036854775807 ∧ f.s.size ≤ 9223372036854775807 := fun f hf => ⟨(h f hf).1, (h f hf).2.1⟩
theorem maxW_of {w : World} (h : w.ShapedOpen Try.prog) : MaxW w := by
  obtain ⟨m, hm⟩ := Go.Proofs.cell_of_shapedOpen_int (zero := #[.int .i64 0]) (t := 3) (g := 0) h (of_decide_eq_true (by kernel_rfl)) (by kernel_rfl) rfl (by kernel_rfl) (by kernel_rfl) Try.underlying3
  exact ⟨⟨m, hm⟩, (cell_lt hm).1⟩
theorem elay_bad {t p : ByteArray} {q : Int} {a : Option Addr} {c : Nat} {l : List FB} (hl : l.length ≤ 1000000000) (ht : t.size ≤ 1000000000) (hp : p.size ≤ 1000000000) (hs : FOk l) (h0 : 0 ≤ q) (h4 : q ≤ 18446744073709551615) :
    ∀ (w : World), MaxW w → Flds w a l → Calls Try.prog 21 #[.agg #[.string t, .string p, .int .u64 q, .slice a l.length c]] w fun e w' => e = .returned (.tuple (if (evE t p q l).may = true then #[.string ⟨(evE t p q l).lay.toArray⟩, .int .i64 0] else #[.string ⟨#[]⟩, .int .i64 1])) ∧ Below w.heap.size w w' := by
  intro w hM hF
  cases hm : (evE t p q l).may with
  | true => rw [if_pos rfl]; exact elay_yes t p q a c l hl ht hp hs w hM hF h0 h4 hm
  | false => rw [if_neg (by simp)]; exact elay_no t p q a c l hl ht hp hs w hM hF h0 h4 hm
theorem flds_box {w : World} {B : Nat} {t p : ByteArray} {q : Int} {a0 : Option Addr} {m c0 : Nat} {T : TypeId} {a : Option Addr} {l : List FB} (hB : w.heap[B]? = some (.cells #[.string t, .string p, .int .u64 q, .slice a0 m c0] T (0, 0))) (hF : Flds w a l) (v0 v1 v2 v3 : Value) :
    Flds ((((w.setCell ⟨B, 0, none⟩ v0).setCell ⟨B, 1, none⟩ v1).setCell ⟨B, 2, none⟩ v2).setCell ⟨B, 3, none⟩ v3) a l := by
  intro i hi
  obtain ⟨b, o, h1, h2, h3⟩ := hF i hi
  have hne : B ≠ b := fun e => by
    subst e
    have h := h3.c1
    rw [Lib.cell_of_heap hB] at h
    have : ∀ j, (#[.string t, .string p, .int .u64 q, .slice a0 m c0] : Array Value)[j]? ≠ some (Value.bool l[i].num) := fun j => by
      match j with
      | 0 => simp
      | 1 => simp
      | 2 => simp
      | 3 => simp
      | j + 4 => rw [Array.getElem?_eq_none (by simp)]; simp
    exact this _ h
  obtain ⟨k0, k1, k2, k3⟩ := h3
  exact ⟨b, o, h1, by simpa using h2, ⟨by simp [cell_setCell, hne, k0], by simp [cell_setCell, hne, k1], by simp [cell_setCell, hne, k2], by simp [cell_setCell, hne, k3]⟩⟩
theorem new_box (w : World) (cs : Array Value) (T : TypeId) : (w.alloc (.cells cs T)).heap[w.heap.size]? = some (.cells cs T (0, 0)) := by show (w.heap.push _)[_]? = _; simp
theorem take_short_c (s : ByteArray) (hs : s.size ≤ 1000000000) (h : takeE s.data.toList = (Ev.zero, 0, 3)) : ∀ (w : World), MaxW w → Calls Try.prog 22 #[.string s] w fun e w' => (∃ a c, e = .returned (.tuple #[.agg #[.string ⟨#[]⟩, .string ⟨#[]⟩, .int .u64 0, .slice a 0 c], .int .i64 0, .int .i64 3])) ∧ Below w.heap.size w w' := by
  intro w hM
  have t1 := etake_c s hs w hM
  rw [h] at t1
  refine t1.mono ?_
  rintro e w4 ⟨a4, c4, rfl, _, _, hb4⟩
  exact ⟨⟨a4, c4, rfl⟩, hb4⟩
theorem same_zero (a : Option Addr) (c : Nat) (w : World) : Calls Try.prog 14 #[.agg #[.string ⟨#[]⟩, .string ⟨#[]⟩, .int .u64 0, .slice a 0 c], .agg #[.string ⟨#[]⟩, .string ⟨#[]⟩, .int .u64 0, .slice none 0 0]] w fun e w' => e = .returned (.bool true) ∧ Below w.heap.size w w' := by
  refine (rsame_c ⟨#[]⟩ ⟨#[]⟩ ⟨#[]⟩ ⟨#[]⟩ 0 0 a none c 0 [] [] (by simp) (by simp) w (Flds.nil _ _) (Flds.nil _ _)).mono ?_
  rintro e w' ⟨r, rfl, hr, hb⟩
  rw [hr.2 ⟨rfl, rfl, rfl, rfl⟩]
  exact ⟨rfl, hb⟩
set_option maxHeartbeats 2000000 in
theorem eventShort_c (t p : ByteArray) (q : Int) (a : Option Addr) (l : List FB) (c : Nat) (ht : t.size ≤ 9223372036854775807) (hp : p.size ≤ 9223372036854775807) (h0 : 0 ≤ q) (h4 : q ≤ 18446744073709551615) (hI : FIn l) (hl : l.length ≤ 9223372036854775807) (n : Int) (hn0 : 0 ≤ n) (hn1 : n ≤ 65535) (w : World) (hM : MaxW w) (hF : Flds w a l) :
    Calls Try.prog 6 #[.agg #[.string t, .string p, .int .u64 q, .slice a l.length c], .int .u16 n] w fun e w' => e = .returned (.bool true) ∧ Below w.heap.size w w' := by
  obtain ⟨hO, hO2, hlen⟩ := few_ok hI
  have HF := Lib.hid hF
  have HM := Lib.hid hM
  have HI := Lib.hid (few_in hI)
  have HO := Lib.hid hO
  have u1 := few60_le t
  have u2 := few60_le p
  clear hF hM hI hO hO2
  go_enter Try.func6, Try.ntmps6
  go_wp2_with fail
  have hbx := balloc (.cells #[.string t, .string p, .int .u64 q, .slice a l.length c] 25) (.refl w.heap.size w)
  refine (efew_c t p q a c l hl ht hp HI.out _ (HF.out.grow hbx)).mono ?_
  rintro e w1 ⟨a1, c1, rfl, hF1, hS1, hb1⟩
  have hB1 : w1.heap[w.heap.size]? = some (.cells #[.string t, .string p, .int .u64 q, .slice a l.length c] 25 (0, 0)) := (hb1.block w.heap.size (by simp)).trans (new_box w _ _)
  have HB1 := Lib.hid hB1
  have hE1 := EAt.of hB1
  have hz1 : w.heap.size < w1.heap.size := (by have := hb1.size; simp at this; omega)
  have K1 := Lib.hid (bstep hb1 hbx)
  have F1 := Lib.hid hF1
  clear hb1 hbx hF1 HI HF hS1 hB1
  obtain ⟨d0, d1, d2, d3, d4, d5, d6, d7⟩ := hE1
  obtain ⟨L, hL⟩ : ∃ L, fewL l = L := ⟨_, rfl⟩
  rw [hL] at HO hlen F1
  rw [hL]
  obtain ⟨t1, ht1⟩ : ∃ t1, few60 t = t1 := ⟨_, rfl⟩
  obtain ⟨p1, hp1⟩ : ∃ p1, few60 p = p1 := ⟨_, rfl⟩
  rw [ht1] at u1
  rw [hp1] at u2
  rw [ht1, hp1]
  clear hL ht1 hp1 ht hp hl
  have hlay := @elay_bad t1 p1 q a1 c1 L (by omega) (by omega) (by omega) HO.out h0 h4
  have hfits := Lib.hid (evFits (t := t1) (p := p1) h0 h4 HO.out)
  obtain ⟨E, hE⟩ : ∃ E, evE t1 p1 q L = E := ⟨_, rfl⟩
  rw [hE] at hlay hfits
  clear hE
  have HE1 := Lib.hid (EAt.setAll (t' := t1) (p' := p1) (q' := q) (u' := .slice a1 L.length c1) ⟨d0, d1, d2, d3, d4, d5, d6, d7⟩)
  have FY := Lib.hid (flds_box HB1.out F1.out (.string t1) (.string p1) (.int .u64 q) (.slice a1 L.length c1))
  have KY := Lib.hid (bset (p := ⟨w.heap.size, 3, none⟩) (.slice a1 L.length c1) (Nat.le_refl _) (bset (p := ⟨w.heap.size, 2, none⟩) (.int .u64 q) (Nat.le_refl _) (bset (p := ⟨w.heap.size, 1, none⟩) (.string p1) (Nat.le_refl _) (bset (p := ⟨w.heap.size, 0, none⟩) (.string t1) (Nat.le_refl _) K1.out))))
  have hzY : w.heap.size < ((((w1.setCell ⟨w.heap.size, 0, none⟩ (.string t1)).setCell ⟨w.heap.size, 1, none⟩ (.string p1)).setCell ⟨w.heap.size, 2, none⟩ (.int .u64 q)).setCell ⟨w.heap.size, 3, none⟩ (.slice a1 L.length c1)).heap.size := by simpa using hz1
  go_wp2_with fail
  clear d0 d1 d2 d3 d4 d5 d6 d7 HB1 F1 K1 hz1
  revert HE1 FY KY hzY
  generalize (((w1.setCell ⟨w.heap.size, 0, none⟩ (.string t1)).setCell ⟨w.heap.size, 1, none⟩ (.string p1)).setCell ⟨w.heap.size, 2, none⟩ (.int .u64 q)).setCell ⟨w.heap.size, 3, none⟩ (.slice a1 L.length c1) = Y
  intro HE1 FY KY hzY
  have hc := hlay Y (HM.out.grow KY.out) FY.out
  clear hlay
  cases hm : E.may with
  | false =>
    rw [hm, if_neg (by simp)] at hc
    have HC := Lib.hid hc
    clear hc hm
    refine HC.out.mono ?_
    rintro e w2 ⟨rfl, hb2⟩
    have K2 := Lib.hid (bstep hb2 KY.out)
    clear hb2
    go_wp2_with fail
    refine (awake4_c _ (HM.out.grow K2.out)).mono ?_
    rintro e w3 ⟨rfl, hb3⟩
    have K3 := Lib.hid (bstep hb3 K2.out)
    clear hb3
    go_wp2_with fail
    go_ret
    exact ⟨rfl, K3.out⟩
  | true =>
    rw [hm, if_pos rfl] at hc
    have HC := Lib.hid hc
    have hpos := elay_pos E
    have hle := elay_le hm
    obtain ⟨S, hS⟩ : ∃ S : ByteArray, (⟨E.lay.toArray⟩ : ByteArray) = S := ⟨_, rfl⟩
    have hSs : S.size = E.lay.length := by rw [← hS]; rfl
    have hSd : S.data.toList = E.lay := by rw [← hS]
    rw [hS] at HC
    obtain ⟨N, hN⟩ : ∃ N : Nat, n = N := ⟨n.toNat, by omega⟩
    subst hN
    have hmod : N % S.size < S.size := Nat.mod_lt _ (by omega)
    have hmod2 : N % S.size < E.lay.length := hSs ▸ hmod
    have hmod3 : N % S.size ≤ 1000000000 := by generalize N % S.size = z at *; omega
    have hsh := etake_short E hm hfits.out (N % S.size) hmod2
    have htk : (S.extract 0 (N % S.size)).data.toList = E.lay.take (N % S.size) := by rw [sub_str, hSd, List.drop_zero]
    have ct := take_short_c (S.extract 0 (N % S.size)) (by rw [ByteArray.size_extract]; generalize N % S.size = z at *; omega) (by rw [htk, hsh])
    have CT := Lib.hid ct
    have y2 : ((S.size : Int) == 0) = false := beq_false_of_ne (by omega)
    have y3 : (0 : Int) < S.size := by omega
    have y4 : ((N : Int) % S.size).toNat = N % S.size := by rw [← Int.natCast_emod]; exact Int.toNat_natCast _
    have y5 : (N : Int) % S.size ≤ S.size := Int.le_of_lt (Int.emod_lt_of_pos _ y3)
    have y6 : (0 : Int) ≤ (N : Int) % S.size := Int.emod_nonneg _ (by omega)
    clear hm hpos hle hS hSs hSd hsh htk ct hc hfits
    refine HC.out.mono ?_
    rintro e w2 ⟨rfl, hb2⟩
    have K2 := Lib.hid (bstep hb2 KY.out)
    clear hb2
    go_wp2_with fail
    refine (CT.out w2 (HM.out.grow K2.out)).mono ?_
    rintro e w3 ⟨⟨a3, c3, rfl⟩, hb3⟩
    have K3 := Lib.hid (bstep hb3 K2.out)
    clear hb3
    go_wp2_with fail
    have K4 := Lib.hid (balloc (.cells #[.string ⟨#[]⟩, .string ⟨#[]⟩, .int .u64 0, .slice a3 0 c3] 25) K3.out)
    refine (same_zero a3 c3 _).mono ?_
    rintro e w4 ⟨rfl, hb4⟩
    have K5 := Lib.hid (bstep hb4 K4.out)
    clear hb4 K4 K3
    go_wp2_with fail
    refine (awake4_c _ (HM.out.grow K5.out)).mono ?_
    rintro e w6 ⟨rfl, hb6⟩
    have K6 := Lib.hid (bstep hb6 K5.out)
    clear hb6
    go_wp2_with fail
    go_ret
    exact ⟨rfl, K6.out⟩
end Go.Proofs.Ytfohdjgalmodbaa
