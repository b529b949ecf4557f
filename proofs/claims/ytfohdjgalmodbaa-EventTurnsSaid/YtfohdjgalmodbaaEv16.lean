/- The walk of event.Lay. -/
import Derived.Test.YtfohdjgalmodbaaProg
import Derived.WalkKit
import Derived.WalkSpells
import Derived.WalkLawsBesides
import Derived.Lib.Hide
import Derived.Deep.RegionWith
import Derived.Deep.Cut
import Derived.Test.YtfohdjgalmodbaaEv15
set_option linter.unusedVariables false
set_option linter.unusedSimpArgs false
namespace Go.Proofs.Ytfohdjgalmodbaa
open Go.RowKit Tryst
set_option maxHeartbeats 400000
set_option maxRecDepth 20000
def evE (t p : ByteArray) (q : Int) (l : List FB) : Ev := ⟨t.data.toList, p.data.toList, q.toNat, l.map FB.fld⟩
theorem evMay_eq (t p : ByteArray) (q : Int) (l : List FB) (h0 : 0 ≤ q) : evMay t p q l = (evE t p q l).may := by
  unfold evMay evE Ev.may
  simp only [List.length_map]
  congr 3
  by_cases h : 1 ≤ q
  · rw [decide_eq_true h, decide_eq_true (by omega)]
  · rw [decide_eq_false h, decide_eq_false (by omega)]
/-- each field's parts are such as Go has them -/
def FOk (l : List FB) : Prop := ∀ f ∈ l, f.name.size ≤ 1000000000 ∧ f.s.size ≤ 1000000000 ∧ -9223372036854775808 ≤ f.n ∧ f.n ≤ 9223372036854775807
theorem FOk.sizes {l : List FB} (h : FOk l) : ∀ f ∈ l, f.name.size ≤ 1000000000 ∧ f.s.size ≤ 1000000000 := fun f hf => ⟨(h f hf).1, (h f hf).2.1⟩
theorem evFits {t p : ByteArray} {q : Int} {l : List FB} (h0 : 0 ≤ q) (h4 : q ≤ 18446744073709551615) (h : FOk l) : (evE t p q l).Fits := by
  refine ⟨by show q.toNat < _; omega, ?_⟩
  intro f hf
  obtain ⟨g, hg, rfl⟩ := List.mem_map.1 hf
  exact (h g hg).2.2
def headL (t p : ByteArray) (q : Int) (n : Nat) : List UInt8 := textL t.data.toList ++ textL p.data.toList ++ pack q.toNat ++ pack n
theorem lay_parts (t p : ByteArray) (q : Int) (l : List FB) : (evE t p q l).lay = headL t p q l.length ++ layF (l.map FB.fld) := by
  unfold Ev.lay evE headL
  simp only [List.length_map, List.append_assoc]
theorem may_fld {t p : ByteArray} {q : Int} {l : List FB} (h : (evE t p q l).may = true) (k : Nat) (hk : k < l.length) : V.May ⟨l[k].num, l[k].n, l[k].s.data.toList⟩ ∧ (layF ((l.take k).map FB.fld)).length ≤ 704 ∧ (headL t p q l.length).length ≤ 100 ∧ l[k].name.data.toList.length ≤ 16 := by
  obtain ⟨h1, h2, h3, h4⟩ := may_parts h
  have e : (evE t p q l).l = l.map FB.fld := rfl
  rw [e] at h3 h4
  rw [List.length_map] at h3
  have h5 := h4 l[k].fld (List.mem_map.2 ⟨l[k], List.getElem_mem hk, rfl⟩)
  refine ⟨h5.2, ?_, ?_, h5.1⟩
  · have := layF_le (l := (l.take k).map FB.fld) fun f hf => h4 f (by
      obtain ⟨g, hg, rfl⟩ := List.mem_map.1 hf
      exact List.mem_map.2 ⟨g, List.mem_of_mem_take hg, rfl⟩)
    rw [List.length_map, List.length_take] at this
    omega
  · have g1 := text_le (s := t.data.toList) (m := 40) h1 (by decide)
    have g2 := text_le (s := p.data.toList) (m := 16) h2 (by decide)
    have g3 := pack_le q.toNat
    have g4 := pack_le l.length
    unfold headL
    simp only [List.length_append]
    omega
theorem layF_step {l : List FB} {k : Nat} (hk : k < l.length) : layF ((l.take (k + 1)).map FB.fld) = layF ((l.take k).map FB.fld) ++ (textL l[k].name.data.toList ++ V.lay ⟨l[k].num, l[k].n, l[k].s.data.toList⟩) := by
  rw [List.take_succ_eq_append_getElem hk, List.map_append, layF_append]
  congr 1
  simp [layF, Fld.lay, FB.fld]
def LayRel (w : World) (b : Nat) (pre : List UInt8) (l : List FB) (i : Value) (wr : World) : Prop := ∃ k : Nat, k ≤ l.length ∧ i = .int .i64 k ∧ Hid (Bld wr b b (pre ++ layF ((l.take k).map FB.fld))) ∧ Hid (Below w.heap.size w wr) ∧ b < wr.heap.size
theorem elay_no (t p : ByteArray) (q : Int) (a : Option Addr) (c : Nat) (l : List FB) (hl : l.length ≤ 1000000000) (ht : t.size ≤ 1000000000) (hp : p.size ≤ 1000000000) (hs : FOk l) (w : World) (hM : MaxW w) (hF : Flds w a l)
    (h0 : 0 ≤ q) (h4 : q ≤ 18446744073709551615) (hm : (evE t p q l).may = false) :
    Calls Try.prog 21 #[.agg #[.string t, .string p, .int .u64 q, .slice a l.length c]] w fun e w' => e = .returned (.tuple #[.string ⟨#[]⟩, .int .i64 1]) ∧ Below w.heap.size w w' := by
  have HF := Lib.hid hF
  have HM := Lib.hid hM
  have HS := Lib.hid hs
  have HY : Hid (evMay t p q l = false) := by show evMay t p q l = _; rw [evMay_eq t p q l h0]; exact hm
  clear hF hM hs hm
  go_enter Try.func21, Try.ntmps21
  go_wp2_with fail
  have hbx := balloc (.cells #[.string t, .string p, .int .u64 q, .slice a l.length c] 25) (.refl w.heap.size w)
  refine (evmay_c t p q a c l hl ht hp HS.out.sizes _ (HM.out.grow hbx) (HF.out.grow hbx) h0 h4).mono ?_
  rintro e w1 ⟨rfl, hb1⟩
  rw [HY.out]
  have HB1 := Lib.hid (bstep hb1 hbx)
  clear hb1 hbx
  go_wp2_with fail
  go_ret2
  exact ⟨rfl, HB1.out⟩
set_option maxHeartbeats 2000000 in
theorem elay_yes (t p : ByteArray) (q : Int) (a : Option Addr) (c : Nat) (l : List FB) (hl : l.length ≤ 1000000000) (ht : t.size ≤ 1000000000) (hp : p.size ≤ 1000000000) (hs : FOk l) (w : World) (hM : MaxW w) (hF : Flds w a l)
    (h0 : 0 ≤ q) (h4 : q ≤ 18446744073709551615) (hm : (evE t p q l).may = true) :
    Calls Try.prog 21 #[.agg #[.string t, .string p, .int .u64 q, .slice a l.length c]] w fun e w' => e = .returned (.tuple #[.string ⟨(evE t p q l).lay.toArray⟩, .int .i64 0]) ∧ Below w.heap.size w w' := by
  have HF := Lib.hid hF
  have HM := Lib.hid hM
  have HS := Lib.hid hs
  have HY : Hid (evMay t p q l = true) := by show evMay t p q l = _; rw [evMay_eq t p q l h0]; exact hm
  have HMM := Lib.hid hm
  have hw8 : IntKind.u64.wrap (l.length : Int) = l.length := len_wrap _ hl
  have g1 : (textL t.data.toList).length ≤ 41 := text_le (may_parts hm).1 (by decide)
  have g2 : (textL p.data.toList).length ≤ 17 := text_le (may_parts hm).2.1 (by decide)
  have g3 := pack_le q.toNat
  have g4 := pack_le l.length
  clear hF hM hs hm
  go_enter Try.func21, Try.ntmps21
  go_wp2_with fail
  have hbx := balloc (.cells #[.string t, .string p, .int .u64 q, .slice a l.length c] 25) (.refl w.heap.size w)
  refine (evmay_c t p q a c l hl ht hp HS.out.sizes _ (HM.out.grow hbx) (HF.out.grow hbx) h0 h4).mono ?_
  rintro e w1 ⟨rfl, hb1⟩
  rw [HY.out]
  have E1 : EAt w1 w.heap.size t p q (.slice a l.length c) := by
    refine EAt.grow (v := w.alloc (.cells #[.string t, .string p, .int .u64 q, .slice a l.length c] 25)) ?_ (by simp) hb1
    constructor <;> simp [go_sem]
  have hz1 : w.heap.size < w1.heap.size := (by have := hb1.size; simp at this; omega)
  have HB1 := Lib.hid (bstep hb1 hbx)
  have HBd := Lib.hid (Lib.fresh_isBuilder 62 5 w1)
  obtain ⟨B, hB⟩ : ∃ B, w1.heap.size = B := ⟨_, rfl⟩
  have E2 := E1.grow hz1 (balloc (.cells #[.pointer none, .slice none 0 0] 62) (.refl _ w1))
  have EE := Lib.hid E2
  have KB := Lib.hid (balloc (.cells #[.pointer none, .slice none 0 0] 62) HB1.out)
  have hzB : B < (w1.alloc (.cells #[.pointer none, .slice none 0 0] 62)).heap.size := by simp; omega
  obtain ⟨c0, c1, c2, c3, c4, c5, c6, c7⟩ := E2
  rw [hB] at HBd hz1
  clear hb1 hbx E1 HB1
  go_wp2_with fail
  have HBX : Hid (Bld (w1.alloc (.cells #[.pointer none, .slice none 0 0] 62)) B B []) := HBd.out
  revert HBX EE KB hzB c0 c1 c2 c3 c4 c5 c6 c7
  generalize w1.alloc (.cells #[.pointer none, .slice none 0 0] 62) = X
  intro EE KB hzB c0 c1 c2 c3 c4 c5 c6 c7 HBX
  clear HBd hB
  refine (text_c B B [] t X HBX.out (by simp) ht (by omega)).mono ?_
  rintro e w2 ⟨rfl, hB2, hb2, hk2⟩
  rw [List.nil_append] at hB2
  clear c0 c1 c2 c3 c4 c5 c6 c7
  have E2 := Lib.hid (EE.out.growB hz1 hb2)
  have K2 := Lib.hid (KB.out.trans (hb2.mono (Nat.le_of_lt hz1)))
  have H2 := Lib.hid hB2
  have z2 : B < w2.heap.size := Nat.lt_of_lt_of_le hzB hb2.size
  obtain ⟨c0, c1, c2, c3, c4, c5, c6, c7⟩ := E2.out
  clear hb2 hB2
  clear hk2 HBX EE KB
  go_wp2_with fail
  refine (text_c B B _ p w2 H2.out (by omega) hp (by omega)).mono ?_
  rintro e w3 ⟨rfl, hB3, hb3, hk3⟩
  clear c0 c1 c2 c3 c4 c5 c6 c7
  have E3 := Lib.hid (E2.out.growB hz1 hb3)
  have K3 := Lib.hid (K2.out.trans (hb3.mono (Nat.le_of_lt hz1)))
  have H3 := Lib.hid hB3
  have z3 : B < w3.heap.size := Nat.lt_of_lt_of_le z2 hb3.size
  obtain ⟨c0, c1, c2, c3, c4, c5, c6, c7⟩ := E3.out
  clear hb3 hB3
  clear hk3 H2 E2 K2
  go_wp2_with fail
  refine (packAll_c q _ h0 h4).mono ?_
  rintro e w4 ⟨rfl, hb4⟩
  have hB4 := H3.out.grow hb4
  have hb4' : Below B w3 w4 := hb4.mono (by omega)
  clear c0 c1 c2 c3 c4 c5 c6 c7
  have E4 := Lib.hid (E3.out.growB hz1 hb4')
  have K4 := Lib.hid (K3.out.trans (hb4'.mono (Nat.le_of_lt hz1)))
  have H4 := Lib.hid hB4
  have z4 : B < w4.heap.size := Nat.lt_of_lt_of_le z3 hb4'.size
  obtain ⟨c0, c1, c2, c3, c4, c5, c6, c7⟩ := E4.out
  clear hb4' hB4
  clear hb4 H3 E3 K3
  go_wp2_with fail
  refine (write_c B B _ _ w4 H4.out (by simp only [List.length_append]; omega) (by rw [mk_size]; omega) (by omega)).mono ?_
  rintro e w5 ⟨rfl, hB5, hb5, hk5⟩
  rw [mk_str (pack q.toNat)] at hB5
  clear c0 c1 c2 c3 c4 c5 c6 c7
  have E5 := Lib.hid (E4.out.growB hz1 hb5)
  have K5 := Lib.hid (K4.out.trans (hb5.mono (Nat.le_of_lt hz1)))
  have H5 := Lib.hid hB5
  have z5 : B < w5.heap.size := Nat.lt_of_lt_of_le z4 hb5.size
  obtain ⟨c0, c1, c2, c3, c4, c5, c6, c7⟩ := E5.out
  clear hb5 hB5
  clear hk5 H4 E4 K4
  go_wp2_with fail
  refine (packAll_c _ _ (by omega) (by omega)).mono ?_
  rintro e w6 ⟨rfl, hb6⟩
  rw [Int.toNat_natCast]
  have hB6 := H5.out.grow hb6
  have hb6' : Below B w5 w6 := hb6.mono (by omega)
  clear c0 c1 c2 c3 c4 c5 c6 c7
  have E6 := Lib.hid (E5.out.growB hz1 hb6')
  have K6 := Lib.hid (K5.out.trans (hb6'.mono (Nat.le_of_lt hz1)))
  have H6 := Lib.hid hB6
  have z6 : B < w6.heap.size := Nat.lt_of_lt_of_le z5 hb6'.size
  obtain ⟨c0, c1, c2, c3, c4, c5, c6, c7⟩ := E6.out
  clear hb6' hB6
  clear hb6 H5 E5 K5
  go_wp2_with fail
  refine (write_c B B _ _ w6 H6.out (by simp only [List.length_append]; omega) (by rw [mk_size]; omega) (by omega)).mono ?_
  rintro e w7 ⟨rfl, hB7, hb7, hk7⟩
  rw [mk_str (pack l.length)] at hB7
  clear c0 c1 c2 c3 c4 c5 c6 c7
  have E7 := Lib.hid (E6.out.growB hz1 hb7)
  have K7 := Lib.hid (K6.out.trans (hb7.mono (Nat.le_of_lt hz1)))
  have H7 := Lib.hid hB7
  have z7 : B < w7.heap.size := Nat.lt_of_lt_of_le z6 hb7.size
  obtain ⟨c0, c1, c2, c3, c4, c5, c6, c7⟩ := E7.out
  clear hb7 hB7
  clear hk7 H6 E6 K6
  go_wp2_with fail
  have HS0 : Hid (Bld w7 B B (headL t p q l.length ++ layF ((l.take 0).map FB.fld))) := by
    have := H7.out
    show Bld w7 B B _
    rw [List.take_zero, List.map_nil, layF, List.append_nil]
    exact this
  clear H7 c0 c1 c2 c3 c4 c5 c6 c7
  have hwB : w.heap.size ≤ B := by omega
  go_loopw [35] (fun i wr => LayRel w B (headL t p q l.length) l i wr) (fun i _ => l.length - (intOf i).toNat)
  case atStart => exact ⟨0, by omega, rfl, HS0, K7, z7⟩
  case round =>
    clear HS0 K7 E7 z7
    obtain ⟨k, hk, rfl, HL, KB, hz⟩ := hrel
    obtain ⟨wo, rfl⟩ : ∃ wo, wo = wr := ⟨_, rfl⟩
    by_cases hlt : k < l.length
    · obtain ⟨hvm, hle1, hle2, hle3⟩ := may_fld HMM.out k hlt
      have HV := Lib.hid hvm
      have hn1 : (textL l[k].name.data.toList).length ≤ 17 := text_le hle3 (by decide)
      have hv1 := lay_le _ hvm
      have HF2 := Lib.hid (HF.out.grow KB.out)
      obtain ⟨b, o, ha, hb⟩ := HF2.out.head hlt
      subst ha
      obtain ⟨_, f0, f1, f2, f3⟩ := HF2.out.at hlt
      obtain ⟨s1, s2, s3, s4⟩ := HS.out l[k] (List.getElem_mem hlt)
      have HBX := Lib.hid (HL.out.grow (balloc (.cells #[.string l[k].name, .bool l[k].num, .int .i64 l[k].n, .string l[k].s] 42) (.refl wo.heap.size wo)))
      have KBX := Lib.hid (balloc (.cells #[.string l[k].name, .bool l[k].num, .int .i64 l[k].n, .string l[k].s] 42) KB.out)
      have hstep := layF_step hlt
      have HSt := Lib.hid hstep
      obtain ⟨g, hg⟩ : ∃ g, wo.heap.size = g := ⟨_, rfl⟩
      have hbox : (wo.alloc (.cells #[.string l[k].name, .bool l[k].num, .int .i64 l[k].n, .string l[k].s] 42)).heap[g]? = some (.cells #[.string l[k].name, .bool l[k].num, .int .i64 l[k].n, .string l[k].s] 42 (0, 0)) := by
        rw [← hg]; show (wo.heap.push _)[wo.heap.size]? = _; simp
      have Hbox := Lib.hid hbox
      have hzx : B < (wo.alloc (.cells #[.string l[k].name, .bool l[k].num, .int .i64 l[k].n, .string l[k].s] 42)).heap.size := by simp; omega
      have hgB : B < g := by omega
      obtain ⟨L, hL⟩ : ∃ L, headL t p q l.length ++ layF ((l.take k).map FB.fld) = L := ⟨_, rfl⟩
      have hLl : L.length ≤ 1000 := by rw [← hL, List.length_append]; omega
      have HSt2 : Hid (headL t p q l.length ++ layF ((l.take (k + 1)).map FB.fld) = L ++ textL l[k].name.data.toList ++ V.lay ⟨l[k].num, l[k].n, l[k].s.data.toList⟩) := by
        show _ = _
        rw [hstep, ← hL]; simp only [List.append_assoc]
      rw [hL] at HBX
      clear hvm hstep hbox HL hL HSt
      go_wp2_with fail
      refine (text_c B B L l[k].name _ HBX.out (by omega) (by omega) (by omega)).mono ?_
      rintro e w2 ⟨rfl, hB2, hb2, hk2⟩
      have b2 := Lib.hid (hk2.box Hbox.out (by omega) (by decide))
      have c1 : w2.cell? ⟨g, 1, none⟩ = some (.bool l[k].num) := by rw [Lib.cell_of_heap b2.out]; rfl
      have c2 : w2.cell? ⟨g, 2, none⟩ = some (.int .i64 l[k].n) := by rw [Lib.cell_of_heap b2.out]; rfl
      have c3 : w2.cell? ⟨g, 3, none⟩ = some (.string l[k].s) := by rw [Lib.cell_of_heap b2.out]; rfl
      have z2 : B < w2.heap.size := Nat.lt_of_lt_of_le hzx hb2.size
      have H2 := Lib.hid hB2
      have K2 := Lib.hid (KBX.out.trans (hb2.mono hwB))
      clear hB2 hb2 hk2 HBX KBX Hbox
      go_wp2_with fail
      refine (lay_yes s2 s3 s4 HV.out w2).mono ?_
      rintro e w3 ⟨rfl, hb3⟩
      have H3 := Lib.hid (H2.out.grow hb3)
      have z3 : B < w3.heap.size := Nat.lt_of_lt_of_le z2 hb3.size
      have K3 := Lib.hid (bstep hb3 K2.out)
      clear hb3 H2 K2 c1 c2 c3 b2
      go_wp2_with fail
      refine (write_c B B _ _ w3 H3.out (by simp only [List.length_append]; omega) (by rw [mk_size]; omega) (by omega)).mono ?_
      rintro e w4 ⟨rfl, hB4, hb4, hk4⟩
      rw [mk_str (V.lay ⟨l[k].num, l[k].n, l[k].s.data.toList⟩)] at hB4
      have H4 : Hid (Bld w4 B B (headL t p q l.length ++ layF ((l.take (k + 1)).map FB.fld))) := by
        show Bld _ _ _ _
        rw [HSt2.out]; exact hB4
      have z4 : B < w4.heap.size := Nat.lt_of_lt_of_le z3 hb4.size
      have K4 := Lib.hid (K3.out.trans (hb4.mono hwB))
      clear hB4 hb4 hk4 H3 K3 f0 f1 f2 f3
      go_wp2_with fail
      go_roundw
      case rel => exact ⟨k + 1, by omega, by go_num, H4, K4, z4⟩
      case measure => simp [intOf] <;> omega
    · have HE : Hid (headL t p q l.length ++ layF ((l.take k).map FB.fld) = (evE t p q l).lay) := by
        show _ = _
        rw [lay_parts, List.take_of_length_le (by omega)]
      clear HMM
      go_wp2_with fail
      refine (Try.Builder_String_any B B _ wo HL.out (by omega)).mono ?_
      rintro e w2 ⟨rfl, hb2⟩
      rw [HE.out]
      have K2 := Lib.hid (KB.out.trans (hb2.mono hwB))
      clear hb2
      go_wp2_with fail
      go_ret2
      exact ⟨rfl, K2.out⟩
end Go.Proofs.Ytfohdjgalmodbaa
