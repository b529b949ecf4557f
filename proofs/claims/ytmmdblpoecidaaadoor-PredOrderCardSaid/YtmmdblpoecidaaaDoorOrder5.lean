/- The walk of the law PredOrder. -/
import Derived.Test.YtmmdblpoecidaaaDoorProg
import Derived.WalkKit
import Derived.WalkSpells
import Derived.WalkLawsBesides
import Derived.Lib.Hide
import Derived.Deep.RegionWith
import Derived.Deep.Cut
import Derived.IntWalk
import Derived.Test.YtmmdblpoecidaaaDoorAwake5
import Derived.Test.YtmmdblpoecidaaaDoorPuts4
import Derived.Test.YtmmdblpoecidaaaDoorHold5
set_option linter.unusedVariables false
set_option linter.unusedSimpArgs false
namespace Go.Proofs.YtmmdblpoecidaaaDoor
open Go.RowKit Tryst
set_option maxHeartbeats 40000000
set_option maxRecDepth 20000
theorem order_self (a : V) : a.order a = 0 := by
  have := order_neg a a
  omega
theorem predOrder_c (t p : ByteArray) (q : Int) (a : Option Addr) (l : List FB) (c : Nat) (ht : t.size ≤ 9223372036854775807) (hp : p.size ≤ 9223372036854775807) (h0 : 0 ≤ q) (h4 : q ≤ 18446744073709551615) (hI : FIn l) (hl : l.length ≤ 9223372036854775807)
    (nm : ByteArray) (hnm : nm.size ≤ 9223372036854775807) (x : Bool) (n : Int) (s : ByteArray) (hs : s.size ≤ 9223372036854775807) (hln : -9223372036854775808 ≤ n) (hhn : n ≤ 9223372036854775807) (w : World) (hM : MaxW w) (hF : Flds w a l) :
    Calls Tryd.prog 4 #[.agg #[.string t, .string p, .int .u64 q, .slice a l.length c], .string nm, .agg #[.bool x, .int .i64 n, .string s]] w fun e w' => e = .returned (.bool true) ∧ Below w.heap.size w w' := by
  obtain ⟨hO, hO2, hlen⟩ := few_ok hI
  have HM := Lib.hid hM
  have CF := Lib.hid (fun W h => efew_c t p q a c l hl ht hp (few_in hI) W h)
  have CN := Lib.hid (fun W => few60_c nm hnm W)
  have CV := Lib.hid (fun W => fewV_c x n s hs W)
  have HF := Lib.hid hF
  have u3 := few60_le nm
  have u4 := few_le s
  clear hF hM hI hO hO2 hl ht hp hnm hs
  revert u3 u4 CF CN CV hlen
  generalize few60 t = t1
  generalize few60 p = p1
  generalize few60 nm = n1
  generalize few s = s1
  generalize fewL l = L
  intro hlen CF CN CV u3 u4
  go_enter Tryd.func4, Tryd.ntmps4
  go_wp2_with fail
  have HBX := Lib.hid (balloc (.cells #[.bool x, .int .i64 n, .string s] 23) (balloc (.cells #[.string t, .string p, .int .u64 q, .slice a l.length c] 30) (.refl w.heap.size w)))
  refine Tryst2.wp_region_grows [.is (.agg #[.string t, .string p, .int .u64 q, .slice a l.length c]), .any (EvS t1 p1 q L), .is (.string nm), .is (.string n1), .is (.agg #[.bool x, .int .i64 n, .string s]), .is (.agg #[.bool x, .int .i64 n, .string s1])] (by kernel_rfl) (by kernel_rfl) ?obl ?fin
  case obl =>
    simp only [Tryst2.AllObl, Tryst2.dstL, Tryst2.Obl, Tryst2.depsOf, Tryst2.binds_data, Tryst2.binds_chain, Tryst2.binds_phase, Tryst2.binds_guard, Tryst2.binds_text, Tryst2.binds_gc, Bool.false_eq_true, if_false, List.filterMap_cons_some, List.filterMap_cons_none, Tryst2.depsR, Tryst2.holdR, Tryst2.tmpsOf, Op.operands, Call.operands, Tryst2.Rsp.pred, Tryst2.wantedV_none, if_true, List.map_cons, List.map_nil, List.length_map, List.take_succ_cons, List.take_zero, List.length_cons, List.length_nil, List.getElem?_cons_zero, List.getElem?_cons_succ, Option.bind_some, id, List.getD_cons_zero, List.getD_cons_succ, Tryst2.isDst, List.filterMap_cons, List.filterMap_nil, List.toList_toArray]
    repeat' apply And.intro
    any_goals trivial
    all_goals (intro tv w' hg hold hd; (try simp at hold); obtain ⟨hcg, hfg⟩ := Tryst2.Grow.cells hg; have hsg := Tryst2.Grow.le hg)
    all_goals first | (go_simp; done) | (go_simp; rw [if_neg (by omega)]; exact ⟨.refl _, rfl⟩) | (obtain ⟨⟨g, hvg, hgg, hcell⟩, _⟩ := hd; have hcell0 := hcell 0 (by decide); simp at hcell0; go_simp; done) | (go_simp; go_at_call 10; (with_reducible refine (CF.out _ ?_).mono ?_); (exact HF.out.grow (Tryst2.Grow.below hg HBX.out)); rintro e w2 ⟨a', c', rfl, hf2, hs2, hb2⟩; exact EvS.of hf2 hs2 hb2) | (go_simp; go_at_call 14; (with_reducible refine (CN.out _).mono ?_); rintro e w2 ⟨rfl, rfl⟩; exact ⟨Tryst2.Grow.refl _, rfl⟩) | (go_simp; go_at_call 15; (with_reducible refine (CV.out _).mono ?_); rintro e w2 ⟨rfl, hb2⟩; exact ⟨hb2, rfl⟩)
  case fin =>
    intro tv w' hg hR
    simp only [Tryst2.allR, Tryst2.dstL, Tryst2.Rsp.pred, List.map_cons, List.map_nil, List.take_succ_cons, List.take_zero, List.length_cons, List.length_nil, List.tail_cons, List.toList_toArray] at hR
    obtain ⟨hcg, hfg⟩ := Tryst2.Grow.cells hg
    have hsg := Tryst2.Grow.le hg
    simp only [Tryst2.putAll, Tryst2.dstL, List.map_cons, List.map_nil, List.take_succ_cons, List.take_zero, List.length_cons, List.length_nil, List.toList_toArray, List.drop_succ_cons, List.drop_zero, Act.put, List.setIfInBounds_toArray, List.set_cons_zero, List.set_cons_succ, hR]
    obtain ⟨aA, cA, eA, fA, sA⟩ := EvS.at hR.2.1
    simp only [eA]
    have hK := Tryst2.Grow.below hg HBX.out
    have hh0 : w'.heap[w.heap.size]? = some (.cells #[.string t, .string p, .int .u64 q, .slice a l.length c] 30 (0, 0)) := (hg.block w.heap.size (by simp; omega)).trans (by
      show ((w.heap.push _).push _)[_]? = _
      simp [Array.getElem?_push])
    have hnb := new_box (w.alloc (.cells #[.string t, .string p, .int .u64 q, .slice a l.length c] 30)) #[.bool x, .int .i64 n, .string s] 23
    rw [show (w.alloc (.cells #[.string t, .string p, .int .u64 q, .slice a l.length c] 30)).heap.size = w.heap.size + 1 by simp] at hnb
    have hh1 : w'.heap[w.heap.size + 1]? = some (.cells #[.bool x, .int .i64 n, .string s] 23 (0, 0)) := (hg.block (w.heap.size + 1) (by simp)).trans hnb
    have hz : w.heap.size + 1 < w'.heap.size := (Array.getElem?_eq_some_iff.1 hh1).1
    have hz0 : w.heap.size < w'.heap.size := by omega
    have e0 := EAt.of hh0
    have v0 : VB3 w' (w.heap.size + 1) x n s := ⟨by rw [Lib.cell_of_heap hh1]; rfl, by rw [Lib.cell_of_heap hh1]; rfl, by rw [Lib.cell_of_heap hh1]; rfl, hz⟩
    have hh1' : ((((w'.setCell ⟨w.heap.size, 0, none⟩ (.string t1)).setCell ⟨w.heap.size, 1, none⟩ (.string p1)).setCell ⟨w.heap.size, 2, none⟩ (.int .u64 q)).setCell ⟨w.heap.size, 3, none⟩ (.slice aA L.length cA)).heap[w.heap.size + 1]? = some (.cells #[.bool x, .int .i64 n, .string s] 23 (0, 0)) := by
      rw [Below.heap_setCell _ _ _ _ (show w.heap.size + 1 ≠ w.heap.size by omega), Below.heap_setCell _ _ _ _ (show w.heap.size + 1 ≠ w.heap.size by omega), Below.heap_setCell _ _ _ _ (show w.heap.size + 1 ≠ w.heap.size by omega), Below.heap_setCell _ _ _ _ (show w.heap.size + 1 ≠ w.heap.size by omega)]
      exact hh1
    have hFY := flds_vbox hh1' (flds_box hh0 fA (.string t1) (.string p1) (.int .u64 q) (.slice aA L.length cA)) (.bool x) (.int .i64 n) (.string s1)
    have hEY := (((e0.setAll (t' := t1) (p' := p1) (q' := q) (u' := .slice aA L.length cA)).away (c := w.heap.size + 1) (o := 0) (x := .bool x) (by omega)).away (c := w.heap.size + 1) (o := 1) (x := .int .i64 n) (by omega)).away (c := w.heap.size + 1) (o := 2) (x := .string s1) (by omega)
    have hVY := ((((v0.away (c := w.heap.size) (o := 0) (u := .string t1) (by omega)).away (c := w.heap.size) (o := 1) (u := .string p1) (by omega)).away (c := w.heap.size) (o := 2) (u := .int .u64 q) (by omega)).away (c := w.heap.size) (o := 3) (u := .slice aA L.length cA) (by omega)).set (y := x) (m := n) (u := s1)
    have GF := Lib.hid hFY
    have GE := Lib.hid hEY
    have GV := Lib.hid hVY
    have SA := Lib.hid sA
    have KY := Lib.hid (bset (p := ⟨w.heap.size + 1, 2, none⟩) (.string s1) (by simp) (bset (p := ⟨w.heap.size + 1, 1, none⟩) (.int .i64 n) (by simp) (bset (p := ⟨w.heap.size + 1, 0, none⟩) (.bool x) (by simp) (bset (p := ⟨w.heap.size, 3, none⟩) (.slice aA L.length cA) (Nat.le_refl _) (bset (p := ⟨w.heap.size, 2, none⟩) (.int .u64 q) (Nat.le_refl _) (bset (p := ⟨w.heap.size, 1, none⟩) (.string p1) (Nat.le_refl _) (bset (p := ⟨w.heap.size, 0, none⟩) (.string t1) (Nat.le_refl _) hK)))))))
    obtain ⟨x0, x1, x2, x3, x4, x5, x6, x7⟩ := e0
    obtain ⟨y0, y1, y2, y3⟩ := v0
    have y4 : w'.frozen? ⟨w.heap.size + 1, 0, none⟩ = false := Lib.frozen_of_heap hh1 0
    have y5 : w'.frozen? ⟨w.heap.size + 1, 1, none⟩ = false := Lib.frozen_of_heap hh1 1
    have y6 : w'.frozen? ⟨w.heap.size + 1, 2, none⟩ = false := Lib.frozen_of_heap hh1 2
    clear hg hR hcg hfg hsg eA fA sA hK hh0 hh1 hh1' hnb HF CF CN CV HBX hFY hEY hVY
    go_upto_region 2 with fail
    clear x0 x1 x2 x3 x4 x5 x6 x7 y0 y1 y2 y3 y4 y5 y6 hz hz0
    revert GF GE GV KY
    generalize ((((((w'.setCell ⟨w.heap.size, 0, none⟩ (.string t1)).setCell ⟨w.heap.size, 1, none⟩ (.string p1)).setCell ⟨w.heap.size, 2, none⟩ (.int .u64 q)).setCell ⟨w.heap.size, 3, none⟩ (.slice aA L.length cA)).setCell ⟨w.heap.size + 1, 0, none⟩ (.bool x)).setCell ⟨w.heap.size + 1, 1, none⟩ (.int .i64 n)).setCell ⟨w.heap.size + 1, 2, none⟩ (.string s1) = Y
    intro GF GE GV KY
    have hzY : w.heap.size + 1 < Y.heap.size := GV.out.hz
    have hzY0 : w.heap.size < Y.heap.size := by omega
    obtain ⟨x0, x1, x2, x3, x4, x5, x6, x7⟩ := GE.out
    obtain ⟨y0, y1, y2, y3⟩ := GV.out
    refine cut_then (fun (cc : Act) v => ∃ g7 g8 g9, cc = ⟨#[.agg #[.string t, .string p, .int .u64 q, .slice a l.length c], .string n1, .agg #[.bool x, .int .i64 n, .string s], .pointer (some ⟨w.heap.size, 0, none⟩), undef, .pointer (some ⟨w.heap.size + 1, 0, none⟩), .bool false, .pointer (some ⟨g7, 0, none⟩), .pointer (some ⟨g8, 0, none⟩), .pointer (some ⟨g9, 0, none⟩), undef, undef, undef, undef, undef, .agg #[.string t, .string p, .int .u64 q, .slice a l.length c], .agg #[.string t1, .string p1, .int .u64 q, .slice aA L.length cA], .string nm, .string n1, .agg #[.bool x, .int .i64 n, .string s], .agg #[.bool x, .int .i64 n, .string s1], .string n1, .agg #[.bool x, .int .i64 n, .string s1], .agg #[.string ⟨#[108, 116]⟩, .string n1, .bool x, .int .i64 n, .string s1, .slice none 0 0], .string n1, .agg #[.bool x, .int .i64 n, .string s1], .agg #[.string ⟨#[101, 113]⟩, .string n1, .bool x, .int .i64 n, .string s1, .slice none 0 0], .string n1, .agg #[.string ⟨#[104, 97, 115]⟩, .string n1, .bool false, .int .i64 0, .string ⟨#[]⟩, .slice none 0 0], undef, undef, undef, undef, undef, undef, undef, undef, undef, undef, undef, undef, undef, undef, undef, undef, undef, undef, undef, undef, undef, undef, undef, undef, undef, undef, undef, undef, undef, undef, undef, undef, undef, undef, undef, undef, undef, undef, undef, undef, undef, undef, undef, undef, undef, undef, undef, undef, undef, undef, undef, undef, undef, undef, undef, undef, undef, undef, undef, undef, undef, undef, undef, undef, undef, undef, undef, undef, undef, undef, undef, undef, undef, undef, undef, undef, undef, undef, undef, undef, undef, undef], []⟩ ∧ Hid (PBox v g7 ⟨#[108, 116]⟩ n1 x n s1 (.slice none 0 0)) ∧ Hid (PBox v g8 ⟨#[101, 113]⟩ n1 x n s1 (.slice none 0 0)) ∧ Hid (PBox v g9 ⟨#[104, 97, 115]⟩ n1 false 0 ⟨#[]⟩ (.slice none 0 0)) ∧ Hid (Below Y.heap.size Y v)) ?_ ?_
    case refine_1 =>
      go_region
      all_goals
        refine ⟨_, _, _, rfl, ?_, ?_, ?_, ?_⟩
        · show PBox _ _ _ _ _ _ _ _
          constructor <;> simp [go_sem] <;> omega
        · show PBox _ _ _ _ _ _ _ _
          constructor <;> simp [go_sem] <;> omega
        · show PBox _ _ _ _ _ _ _ _
          constructor <;> simp [go_sem] <;> omega
        · show Below _ _ _
          (repeat (first | with_reducible exact Below.refl _ _ | with_reducible apply bdrew | with_reducible refine balloc _ ?_))
    case refine_2 =>
      rintro cc Z ⟨g7, g8, g9, rfl, H7, H8, H9, HYZ⟩
      have GF3 := Lib.hid (GF.out.grow HYZ.out)
      have GE3 := Lib.hid (GE.out.grow hzY0 HYZ.out)
      have GV3 := Lib.hid (GV.out.grow HYZ.out)
      have KZ := Lib.hid (bstep HYZ.out KY.out)
      clear x0 x1 x2 x3 x4 x5 x6 x7 y0 y1 y2 y3 GF GE GV KY HYZ hzY hzY0
      obtain ⟨x0, x1, x2, x3, x4, x5, x6, x7⟩ := GE3.out
      obtain ⟨y0, y1, y2, y3⟩ := GV3.out
      have hz0 : w.heap.size < Z.heap.size := by omega
      obtain ⟨a0, a1, a2, a3, a4, a5, a6⟩ := H7.out
      obtain ⟨b0, b1, b2, b3, b4, b5, b6⟩ := H8.out
      obtain ⟨c0, c1, c2, c3, c4, c5, c6⟩ := H9.out
      have HA := Lib.hid (fun W (hb : Below Z.heap.size Z W) => lt_raw n1 x n s1 (by omega) (by omega) t1 p1 q aA L cA (by omega) W (HM.out.grow (bstep hb KZ.out)) (GF3.out.grow hb))
      have HB := Lib.hid (fun W (hb : Below Z.heap.size Z W) => eq_raw n1 x n s1 (by omega) (by omega) t1 p1 q aA L cA (by omega) W (HM.out.grow (bstep hb KZ.out)) (GF3.out.grow hb))
      have HC := Lib.hid (fun W (hb : Below Z.heap.size Z W) => has_raw n1 (by omega) t1 p1 q aA L cA (by omega) W (HM.out.grow (bstep hb KZ.out)) (GF3.out.grow hb))
      obtain ⟨bA, hbA⟩ : ∃ b, ((fieldB n1.data.toList && V.mayB ⟨x, n, s1.data.toList⟩) && ltB L n1 x n s1) = b := ⟨_, rfl⟩
      obtain ⟨bB, hbB⟩ : ∃ b, ((fieldB n1.data.toList && V.mayB ⟨x, n, s1.data.toList⟩) && eqB L n1 x n s1) = b := ⟨_, rfl⟩
      obtain ⟨bC, hbC⟩ : ∃ b, (fieldB n1.data.toList && (findB L n1).isSome) = b := ⟨_, rfl⟩
      rw [hbA] at HA
      rw [hbB] at HB
      rw [hbC] at HC
      have HbA := Lib.hid hbA
      have HbB := Lib.hid hbB
      have HbC := Lib.hid hbC
      clear hbA hbB hbC
      go_upto_region 3 with fail
      refine Tryst2.wp_region_grows [.is (.agg #[.string ⟨#[108, 116]⟩, .string n1, .bool x, .int .i64 n, .string s1, .slice none 0 0]), .is (.agg #[.string t1, .string p1, .int .u64 q, .slice aA L.length cA]), .is (.bool bA), .is (.agg #[.string ⟨#[101, 113]⟩, .string n1, .bool x, .int .i64 n, .string s1, .slice none 0 0]), .is (.agg #[.string t1, .string p1, .int .u64 q, .slice aA L.length cA]), .is (.bool bB), .is (.agg #[.string ⟨#[104, 97, 115]⟩, .string n1, .bool false, .int .i64 0, .string ⟨#[]⟩, .slice none 0 0]), .is (.agg #[.string t1, .string p1, .int .u64 q, .slice aA L.length cA]), .is (.bool bC), .is (.bool bA), .is (.bool bB), .is (.bool bC)] (by kernel_rfl) (by kernel_rfl) ?obl ?fin
      case obl =>
        simp only [Tryst2.AllObl, Tryst2.dstL, Tryst2.Obl, Tryst2.depsOf, Tryst2.binds_data, Tryst2.binds_chain, Tryst2.binds_phase, Tryst2.binds_guard, Tryst2.binds_text, Tryst2.binds_gc, Bool.false_eq_true, if_false, List.filterMap_cons_some, List.filterMap_cons_none, Tryst2.depsR, Tryst2.holdR, Tryst2.tmpsOf, Op.operands, Call.operands, Tryst2.Rsp.pred, Tryst2.wantedV_none, Tryst2.wantedV_some, if_true, List.map_cons, List.map_nil, List.length_map, List.take_succ_cons, List.take_zero, List.length_cons, List.length_nil, List.getElem?_cons_zero, List.getElem?_cons_succ, Option.bind_some, id, List.getD_cons_zero, List.getD_cons_succ, Tryst2.isDst, List.filterMap_cons, List.filterMap_nil, List.toList_toArray]
        repeat' apply And.intro
        any_goals trivial
        all_goals (intro tv w' hg hold hd; (try simp at hold); obtain ⟨hcg, hfg⟩ := Tryst2.Grow.cells hg; have hsg := Tryst2.Grow.le hg)
        all_goals first | (go_simp; done) | (go_simp; rw [if_neg (by omega)]; exact ⟨.refl _, rfl⟩) | (obtain ⟨⟨g, hvg, hgg, hcell⟩, _⟩ := hd; have hcell0 := hcell 0 (by decide); simp at hcell0; go_simp; done) | (go_simp; (with_reducible refine (HA.out _ ?_).mono ?_); (exact Tryst2.Grow.below hg (.refl _ _)); rintro e w2 ⟨rfl, hb2⟩; exact ⟨hb2, rfl⟩) | (go_simp; (with_reducible refine (HB.out _ ?_).mono ?_); (exact Tryst2.Grow.below hg (.refl _ _)); rintro e w2 ⟨rfl, hb2⟩; exact ⟨hb2, rfl⟩) | (go_simp; (with_reducible refine (HC.out _ ?_).mono ?_); (exact Tryst2.Grow.below hg (.refl _ _)); rintro e w2 ⟨rfl, hb2⟩; exact ⟨hb2, rfl⟩)
      case fin =>
        intro tv w' hg hR
        simp only [Tryst2.allR, Tryst2.dstL, Tryst2.Rsp.pred, List.map_cons, List.map_nil, List.take_succ_cons, List.take_zero, List.length_cons, List.length_nil, List.tail_cons, List.toList_toArray] at hR
        obtain ⟨hcg, hfg⟩ := Tryst2.Grow.cells hg
        have hsg := Tryst2.Grow.le hg
        simp only [Tryst2.putAll, Tryst2.dstL, List.map_cons, List.map_nil, List.take_succ_cons, List.take_zero, List.length_cons, List.length_nil, List.toList_toArray, List.drop_succ_cons, List.drop_zero, Act.put, List.setIfInBounds_toArray, List.set_cons_zero, List.set_cons_succ, hR]
        have KW := Lib.hid (bstep (Tryst2.Grow.below hg (.refl Z.heap.size Z)) KZ.out)
        have HW7 := Lib.hid (H7.out.grow (Tryst2.Grow.below hg (.refl Z.heap.size Z)))
        have HW8 := Lib.hid (H8.out.grow (Tryst2.Grow.below hg (.refl Z.heap.size Z)))
        have HW9 := Lib.hid (H9.out.grow (Tryst2.Grow.below hg (.refl Z.heap.size Z)))
        have GFW := Lib.hid (GF3.out.grow (Tryst2.Grow.below hg (.refl Z.heap.size Z)))
        have GEW := Lib.hid (GE3.out.grow hz0 (Tryst2.Grow.below hg (.refl Z.heap.size Z)))
        have GVW := Lib.hid (GV3.out.grow (Tryst2.Grow.below hg (.refl Z.heap.size Z)))
        clear hg hR hcg hfg hsg HA HB HC H7 H8 H9 GF3 GE3 GV3 KZ x0 x1 x2 x3 x4 x5 x6 x7 y0 y1 y2 y3 hz0 a0 a1 a2 a3 a4 a5 a6 b0 b1 b2 b3 b4 b5 b6 c0 c1 c2 c3 c4 c5 c6
        have HRG := Lib.hid (fun W h => rget_c t1 p1 q aA cA L (by omega) n1 W h)
        unfold vV at HRG
        have HAW := Lib.hid (fun W (hb : Below w.heap.size w W) => awake5_c W (HM.out.grow hb))
        obtain ⟨G, hG⟩ : ∃ G, (findB L n1).getD FB.zero = G := ⟨_, rfl⟩
        obtain ⟨d, hd⟩ : ∃ d, (findB L n1).isSome = d := ⟨_, rfl⟩
        have HGG := Lib.hid hG
        have HDD := Lib.hid hd
        rw [hG, hd] at HRG
        obtain ⟨gnum, hg1⟩ : ∃ v, G.num = v := ⟨_, rfl⟩
        obtain ⟨gn, hg2⟩ : ∃ v, G.n = v := ⟨_, rfl⟩
        obtain ⟨gs, hg3⟩ : ∃ v, G.s = v := ⟨_, rfl⟩
        rw [hg1, hg2, hg3] at HRG
        have HG1 := Lib.hid hg1
        have HG2 := Lib.hid hg2
        have HG3 := Lib.hid hg3
        clear hg1 hg2 hg3
        rw [hd] at HbC
        clear hG hd
        have HMH := Lib.hid (fun W (hb : Below w.heap.size w W) => may_raw ⟨#[104, 97, 115]⟩ n1 false 0 ⟨#[]⟩ (by omega) (by decide) W (HM.out.grow hb))
        have HME := Lib.hid (fun W (hb : Below w.heap.size w W) => may_raw ⟨#[101, 113]⟩ n1 x n s1 (by omega) (by omega) W (HM.out.grow hb))
        rw [may_has] at HMH
        rw [may_eq] at HME
        obtain ⟨f, hf⟩ : ∃ f, fieldB n1.data.toList = f := ⟨_, rfl⟩
        obtain ⟨m, hm⟩ : ∃ m, V.mayB ⟨x, n, s1.data.toList⟩ = m := ⟨_, rfl⟩
        rw [hf] at HMH HME HbA HbB HbC
        rw [hm] at HME HbA HbB
        clear hf hm
        obtain ⟨W0, rfl⟩ : ∃ v, v = w' := ⟨_, rfl⟩
        cases d with
        | false =>
          obtain rfl : bC = false := by rw [← HbC.out]; simp
          obtain rfl : bA = false := by rw [← HbA.out]; unfold ltB; rw [HDD.out]; simp
          obtain rfl : bB = false := by rw [← HbB.out]; unfold eqB; rw [HDD.out]; simp
          clear HbA HbB HbC HGG HDD HG1 HG2 HG3
          cases f with
          | false =>
            obtain ⟨x0, x1, x2, x3, x4, x5, x6, x7⟩ := GEW.out
            go_wp2_with fail
            refine (HRG.out W0 GFW.out).mono ?_
            rintro e w1 ⟨rfl, hb1⟩
            have K1 := Lib.hid (bstep hb1 KW.out)
            have P8 := Lib.hid (HW8.out.grow hb1)
            have P9 := Lib.hid (HW9.out.grow hb1)
            have V5 := Lib.hid (GVW.out.grow hb1)
            clear hb1 x0 x1 x2 x3 x4 x5 x6 x7 HRG HW7 HW8 HW9 GFW GEW GVW KW
            go_upto_region 7 with fail
            refine wp_genC (fun v => Hid (PBox v g8 ⟨#[101, 113]⟩ n1 x n s1 (.slice none 0 0)) ∧ Hid (PBox v g9 ⟨#[104, 97, 115]⟩ n1 false 0 ⟨#[]⟩ (.slice none 0 0)) ∧ Hid (VB3 v w1.heap.size gnum gn gs) ∧ Hid (VB3 v (w.heap.size + 1) x n s1) ∧ Hid (Below w.heap.size w v)) ⟨P8.out.grow (balloc _ (.refl _ _)), P9.out.grow (balloc _ (.refl _ _)), VB3.new w1 gnum gn gs 23, V5.out.grow (balloc _ (.refl _ _)), balloc _ K1.out⟩ ?_
            rintro X ⟨Q8, Q9, Q13, Q5, KX⟩
            generalize w1.heap.size = B13 at Q13 ⊢
            clear K1 P8 P9 V5
            obtain ⟨c0, c1, c2, c3, c4, c5, c6⟩ := Q9.out
            go_wp2_with fail
            refine (HMH.out X KX.out).mono ?_
            rintro e X2 ⟨rfl, hb2⟩
            have KX2 := Lib.hid (bstep hb2 KX.out)
            have R8 := Lib.hid (Q8.out.grow hb2)
            have R13 := Lib.hid (Q13.out.grow hb2)
            have R5 := Lib.hid (Q5.out.grow hb2)
            clear c0 c1 c2 c3 c4 c5 c6 hb2 Q8 Q9 Q13 Q5 KX HMH
            obtain ⟨c0, c1, c2, c3, c4, c5, c6⟩ := R8.out
            go_wp2_with fail
            refine (HAW.out _ KX2.out).mono ?_
            rintro e X9 ⟨rfl, hb9⟩
            have K9 := Lib.hid (bstep hb9 KX2.out)
            clear hb9
            go_wp2_with fail
            go_ret
            first | exact ⟨rfl, K9.out⟩ | exact ⟨by simp [h4], K9.out⟩ | exact ⟨ret_bool (by simp; omega), K9.out⟩
          | true =>
            obtain ⟨x0, x1, x2, x3, x4, x5, x6, x7⟩ := GEW.out
            go_wp2_with fail
            refine (HRG.out W0 GFW.out).mono ?_
            rintro e w1 ⟨rfl, hb1⟩
            have K1 := Lib.hid (bstep hb1 KW.out)
            have P8 := Lib.hid (HW8.out.grow hb1)
            have P9 := Lib.hid (HW9.out.grow hb1)
            have V5 := Lib.hid (GVW.out.grow hb1)
            clear hb1 x0 x1 x2 x3 x4 x5 x6 x7 HRG HW7 HW8 HW9 GFW GEW GVW KW
            go_upto_region 7 with fail
            refine wp_genC (fun v => Hid (PBox v g8 ⟨#[101, 113]⟩ n1 x n s1 (.slice none 0 0)) ∧ Hid (PBox v g9 ⟨#[104, 97, 115]⟩ n1 false 0 ⟨#[]⟩ (.slice none 0 0)) ∧ Hid (VB3 v w1.heap.size gnum gn gs) ∧ Hid (VB3 v (w.heap.size + 1) x n s1) ∧ Hid (Below w.heap.size w v)) ⟨P8.out.grow (balloc _ (.refl _ _)), P9.out.grow (balloc _ (.refl _ _)), VB3.new w1 gnum gn gs 23, V5.out.grow (balloc _ (.refl _ _)), balloc _ K1.out⟩ ?_
            rintro X ⟨Q8, Q9, Q13, Q5, KX⟩
            generalize w1.heap.size = B13 at Q13 ⊢
            clear K1 P8 P9 V5
            obtain ⟨c0, c1, c2, c3, c4, c5, c6⟩ := Q9.out
            go_wp2_with fail
            refine (HMH.out X KX.out).mono ?_
            rintro e X2 ⟨rfl, hb2⟩
            have KX2 := Lib.hid (bstep hb2 KX.out)
            have R8 := Lib.hid (Q8.out.grow hb2)
            have R13 := Lib.hid (Q13.out.grow hb2)
            have R5 := Lib.hid (Q5.out.grow hb2)
            clear c0 c1 c2 c3 c4 c5 c6 hb2 Q8 Q9 Q13 Q5 KX HMH
            obtain ⟨c0, c1, c2, c3, c4, c5, c6⟩ := R8.out
            go_wp2_with fail
            refine (HAW.out _ KX2.out).mono ?_
            rintro e X9 ⟨rfl, hb9⟩
            have K9 := Lib.hid (bstep hb9 KX2.out)
            clear hb9
            go_wp2_with fail
            go_ret
            first | exact ⟨rfl, K9.out⟩ | exact ⟨by simp [h4], K9.out⟩ | exact ⟨ret_bool (by simp; omega), K9.out⟩
        | true =>
          cases f with
          | false =>
            obtain rfl : bC = false := by rw [← HbC.out]; rfl
            obtain rfl : bA = false := by rw [← HbA.out]; rfl
            obtain rfl : bB = false := by rw [← HbB.out]; rfl
            clear HbA HbB HbC HGG HDD HG1 HG2 HG3
            obtain ⟨x0, x1, x2, x3, x4, x5, x6, x7⟩ := GEW.out
            go_wp2_with fail
            refine (HRG.out W0 GFW.out).mono ?_
            rintro e w1 ⟨rfl, hb1⟩
            have K1 := Lib.hid (bstep hb1 KW.out)
            have P8 := Lib.hid (HW8.out.grow hb1)
            have P9 := Lib.hid (HW9.out.grow hb1)
            have V5 := Lib.hid (GVW.out.grow hb1)
            clear hb1 x0 x1 x2 x3 x4 x5 x6 x7 HRG HW7 HW8 HW9 GFW GEW GVW KW
            go_upto_region 7 with fail
            refine wp_genC (fun v => Hid (PBox v g8 ⟨#[101, 113]⟩ n1 x n s1 (.slice none 0 0)) ∧ Hid (PBox v g9 ⟨#[104, 97, 115]⟩ n1 false 0 ⟨#[]⟩ (.slice none 0 0)) ∧ Hid (VB3 v w1.heap.size gnum gn gs) ∧ Hid (VB3 v (w.heap.size + 1) x n s1) ∧ Hid (Below w.heap.size w v)) ⟨P8.out.grow (balloc _ (.refl _ _)), P9.out.grow (balloc _ (.refl _ _)), VB3.new w1 gnum gn gs 23, V5.out.grow (balloc _ (.refl _ _)), balloc _ K1.out⟩ ?_
            rintro X ⟨Q8, Q9, Q13, Q5, KX⟩
            generalize w1.heap.size = B13 at Q13 ⊢
            clear K1 P8 P9 V5
            obtain ⟨c0, c1, c2, c3, c4, c5, c6⟩ := Q9.out
            go_wp2_with fail
            refine (HMH.out X KX.out).mono ?_
            rintro e X2 ⟨rfl, hb2⟩
            have KX2 := Lib.hid (bstep hb2 KX.out)
            have R8 := Lib.hid (Q8.out.grow hb2)
            have R13 := Lib.hid (Q13.out.grow hb2)
            have R5 := Lib.hid (Q5.out.grow hb2)
            clear c0 c1 c2 c3 c4 c5 c6 hb2 Q8 Q9 Q13 Q5 KX HMH
            obtain ⟨c0, c1, c2, c3, c4, c5, c6⟩ := R8.out
            go_wp2_with fail
            refine (HAW.out _ KX2.out).mono ?_
            rintro e X9 ⟨rfl, hb9⟩
            have K9 := Lib.hid (bstep hb9 KX2.out)
            clear hb9
            go_wp2_with fail
            go_ret
            first | exact ⟨rfl, K9.out⟩ | exact ⟨by simp [h4], K9.out⟩ | exact ⟨ret_bool (by simp; omega), K9.out⟩
          | true =>
            obtain rfl : bC = true := by rw [← HbC.out]; rfl
            cases m with
            | false =>
              obtain rfl : bA = false := by rw [← HbA.out]; rfl
              obtain rfl : bB = false := by rw [← HbB.out]; rfl
              clear HbA HbB HbC HGG HDD HG1 HG2 HG3
              obtain ⟨x0, x1, x2, x3, x4, x5, x6, x7⟩ := GEW.out
              go_wp2_with fail
              refine (HRG.out W0 GFW.out).mono ?_
              rintro e w1 ⟨rfl, hb1⟩
              have K1 := Lib.hid (bstep hb1 KW.out)
              have P8 := Lib.hid (HW8.out.grow hb1)
              have P9 := Lib.hid (HW9.out.grow hb1)
              have V5 := Lib.hid (GVW.out.grow hb1)
              clear hb1 x0 x1 x2 x3 x4 x5 x6 x7 HRG HW7 HW8 HW9 GFW GEW GVW KW
              go_upto_region 7 with fail
              refine wp_genC (fun v => Hid (PBox v g8 ⟨#[101, 113]⟩ n1 x n s1 (.slice none 0 0)) ∧ Hid (PBox v g9 ⟨#[104, 97, 115]⟩ n1 false 0 ⟨#[]⟩ (.slice none 0 0)) ∧ Hid (VB3 v w1.heap.size gnum gn gs) ∧ Hid (VB3 v (w.heap.size + 1) x n s1) ∧ Hid (Below w.heap.size w v)) ⟨P8.out.grow (balloc _ (.refl _ _)), P9.out.grow (balloc _ (.refl _ _)), VB3.new w1 gnum gn gs 23, V5.out.grow (balloc _ (.refl _ _)), balloc _ K1.out⟩ ?_
              rintro X ⟨Q8, Q9, Q13, Q5, KX⟩
              generalize w1.heap.size = B13 at Q13 ⊢
              clear K1 P8 P9 V5
              obtain ⟨c0, c1, c2, c3, c4, c5, c6⟩ := Q9.out
              go_wp2_with fail
              refine (HMH.out X KX.out).mono ?_
              rintro e X2 ⟨rfl, hb2⟩
              have KX2 := Lib.hid (bstep hb2 KX.out)
              have R8 := Lib.hid (Q8.out.grow hb2)
              have R13 := Lib.hid (Q13.out.grow hb2)
              have R5 := Lib.hid (Q5.out.grow hb2)
              clear c0 c1 c2 c3 c4 c5 c6 hb2 Q8 Q9 Q13 Q5 KX HMH
              obtain ⟨c0, c1, c2, c3, c4, c5, c6⟩ := R8.out
              go_wp2_with fail
              refine (HME.out X2 KX2.out).mono ?_
              rintro e X3 ⟨rfl, hb3⟩
              have KX3 := Lib.hid (bstep hb3 KX2.out)
              have S13 := Lib.hid (R13.out.grow hb3)
              have S5 := Lib.hid (R5.out.grow hb3)
              clear c0 c1 c2 c3 c4 c5 c6 hb3 R8 R13 R5 KX2 HME
              obtain ⟨c0, c1, c2, c6⟩ := S13.out
              obtain ⟨d0, d1, d2, d6⟩ := S5.out
              go_wp2_with fail
              refine (HAW.out _ KX3.out).mono ?_
              rintro e X9 ⟨rfl, hb9⟩
              have K9 := Lib.hid (bstep hb9 KX3.out)
              clear hb9
              go_wp2_with fail
              go_ret
              first | exact ⟨rfl, K9.out⟩ | exact ⟨by simp [h4], K9.out⟩ | exact ⟨ret_bool (by simp; omega), K9.out⟩
            | true =>
              have eA : bA = (decide (gnum = x) && decide (V.order ⟨gnum, gn, gs.data.toList⟩ ⟨x, n, s1.data.toList⟩ < 0)) := by rw [← HbA.out]; unfold ltB; rw [HDD.out, HGG.out, HG1.out, HG2.out, HG3.out]; rfl
              have eB : bB = decide ((gnum = x ∧ gn = n) ∧ gs.toList = s1.toList) := by rw [← HbB.out]; unfold eqB; rw [HDD.out, HGG.out, HG1.out, HG2.out, HG3.out]; rfl
              have HOR := Lib.hid (fun W => rorder_c gnum x gn n gs s1 W)
              obtain ⟨O, hO⟩ : ∃ O, V.order ⟨gnum, gn, gs.data.toList⟩ ⟨x, n, s1.data.toList⟩ = O := ⟨_, rfl⟩
              rw [hO] at eA HOR
              clear HG1 HG2 HG3
              clear HbA HbB HbC HDD
              clear HGG
              by_cases h1 : gnum = x
              · have h1' := h1.symm
                clear h1
                subst h1'
                by_cases h2 : gn = n
                · have h2' := h2.symm
                  clear h2
                  subst h2'
                  by_cases h3 : gs.toList = s1.toList
                  · have h5 : s1 = gs := (str_ext (by rw [← str_toList, ← str_toList]; exact h3)).symm
                    clear h3
                    subst h5
                    have h4 : O = 0 := by
                      rw [← hO]
                      exact order_self _
                    obtain rfl : bA = false := by rw [eA, h4]; simp
                    obtain rfl : bB = true := by rw [eB]; exact decide_eq_true ⟨⟨rfl, rfl⟩, rfl⟩
                    subst h4
                    clear hO eA eB
                    obtain ⟨x0, x1, x2, x3, x4, x5, x6, x7⟩ := GEW.out
                    go_wp2_with fail
                    refine (HRG.out W0 GFW.out).mono ?_
                    rintro e w1 ⟨rfl, hb1⟩
                    have K1 := Lib.hid (bstep hb1 KW.out)
                    have P8 := Lib.hid (HW8.out.grow hb1)
                    have P9 := Lib.hid (HW9.out.grow hb1)
                    have V5 := Lib.hid (GVW.out.grow hb1)
                    clear hb1 x0 x1 x2 x3 x4 x5 x6 x7 HRG HW7 HW8 HW9 GFW GEW GVW KW
                    go_upto_region 7 with fail
                    refine wp_genC (fun v => Hid (PBox v g8 ⟨#[101, 113]⟩ n1 x n s1 (.slice none 0 0)) ∧ Hid (PBox v g9 ⟨#[104, 97, 115]⟩ n1 false 0 ⟨#[]⟩ (.slice none 0 0)) ∧ Hid (VB3 v w1.heap.size x n s1) ∧ Hid (VB3 v (w.heap.size + 1) x n s1) ∧ Hid (Below w.heap.size w v)) ⟨P8.out.grow (balloc _ (.refl _ _)), P9.out.grow (balloc _ (.refl _ _)), VB3.new w1 x n s1 23, V5.out.grow (balloc _ (.refl _ _)), balloc _ K1.out⟩ ?_
                    rintro X ⟨Q8, Q9, Q13, Q5, KX⟩
                    generalize w1.heap.size = B13 at Q13 ⊢
                    clear K1 P8 P9 V5
                    obtain ⟨c0, c1, c2, c3, c4, c5, c6⟩ := Q9.out
                    go_wp2_with fail
                    refine (HMH.out X KX.out).mono ?_
                    rintro e X2 ⟨rfl, hb2⟩
                    have KX2 := Lib.hid (bstep hb2 KX.out)
                    have R8 := Lib.hid (Q8.out.grow hb2)
                    have R13 := Lib.hid (Q13.out.grow hb2)
                    have R5 := Lib.hid (Q5.out.grow hb2)
                    clear c0 c1 c2 c3 c4 c5 c6 hb2 Q8 Q9 Q13 Q5 KX HMH
                    obtain ⟨c0, c1, c2, c3, c4, c5, c6⟩ := R8.out
                    go_wp2_with fail
                    refine (HME.out X2 KX2.out).mono ?_
                    rintro e X3 ⟨rfl, hb3⟩
                    have KX3 := Lib.hid (bstep hb3 KX2.out)
                    have S13 := Lib.hid (R13.out.grow hb3)
                    have S5 := Lib.hid (R5.out.grow hb3)
                    clear c0 c1 c2 c3 c4 c5 c6 hb3 R8 R13 R5 KX2 HME
                    obtain ⟨c0, c1, c2, c6⟩ := S13.out
                    obtain ⟨d0, d1, d2, d6⟩ := S5.out
                    go_wp2_with fail
                    refine (HOR.out _).mono ?_
                    rintro e X4 ⟨rfl, hb4⟩
                    have KX4 := Lib.hid (bstep hb4 KX3.out)
                    clear hb4
                    go_wp2_with fail
                    refine (HAW.out _ KX4.out).mono ?_
                    rintro e X9 ⟨rfl, hb9⟩
                    have K9 := Lib.hid (bstep hb9 KX4.out)
                    clear hb9
                    go_wp2_with fail
                    go_ret
                    first | exact ⟨rfl, K9.out⟩ | exact ⟨by simp [h4], K9.out⟩ | exact ⟨ret_bool (by simp; omega), K9.out⟩
                  · obtain rfl : bB = false := by rw [eB]; exact decide_eq_false (fun h => h3 h.2)
                    have y9 : (gs.toList == s1.toList) = false := by simpa using h3
                    have H3 := Lib.hid h3
                    clear hO eB h3
                    by_cases h4 : O < 0
                    · obtain rfl : bA = true := by rw [eA]; simp [h4]
                      clear eA
                      obtain ⟨x0, x1, x2, x3, x4, x5, x6, x7⟩ := GEW.out
                      go_wp2_with fail
                      refine (HRG.out W0 GFW.out).mono ?_
                      rintro e w1 ⟨rfl, hb1⟩
                      have K1 := Lib.hid (bstep hb1 KW.out)
                      have P8 := Lib.hid (HW8.out.grow hb1)
                      have P9 := Lib.hid (HW9.out.grow hb1)
                      have V5 := Lib.hid (GVW.out.grow hb1)
                      clear hb1 x0 x1 x2 x3 x4 x5 x6 x7 HRG HW7 HW8 HW9 GFW GEW GVW KW
                      go_upto_region 7 with fail
                      refine wp_genC (fun v => Hid (PBox v g8 ⟨#[101, 113]⟩ n1 x n s1 (.slice none 0 0)) ∧ Hid (PBox v g9 ⟨#[104, 97, 115]⟩ n1 false 0 ⟨#[]⟩ (.slice none 0 0)) ∧ Hid (VB3 v w1.heap.size x n gs) ∧ Hid (VB3 v (w.heap.size + 1) x n s1) ∧ Hid (Below w.heap.size w v)) ⟨P8.out.grow (balloc _ (.refl _ _)), P9.out.grow (balloc _ (.refl _ _)), VB3.new w1 x n gs 23, V5.out.grow (balloc _ (.refl _ _)), balloc _ K1.out⟩ ?_
                      rintro X ⟨Q8, Q9, Q13, Q5, KX⟩
                      generalize w1.heap.size = B13 at Q13 ⊢
                      clear K1 P8 P9 V5
                      obtain ⟨c0, c1, c2, c3, c4, c5, c6⟩ := Q9.out
                      go_wp2_with fail
                      refine (HMH.out X KX.out).mono ?_
                      rintro e X2 ⟨rfl, hb2⟩
                      have KX2 := Lib.hid (bstep hb2 KX.out)
                      have R8 := Lib.hid (Q8.out.grow hb2)
                      have R13 := Lib.hid (Q13.out.grow hb2)
                      have R5 := Lib.hid (Q5.out.grow hb2)
                      clear c0 c1 c2 c3 c4 c5 c6 hb2 Q8 Q9 Q13 Q5 KX HMH
                      obtain ⟨c0, c1, c2, c3, c4, c5, c6⟩ := R8.out
                      go_wp2_with fail
                      refine (HME.out X2 KX2.out).mono ?_
                      rintro e X3 ⟨rfl, hb3⟩
                      have KX3 := Lib.hid (bstep hb3 KX2.out)
                      have S13 := Lib.hid (R13.out.grow hb3)
                      have S5 := Lib.hid (R5.out.grow hb3)
                      clear c0 c1 c2 c3 c4 c5 c6 hb3 R8 R13 R5 KX2 HME
                      obtain ⟨c0, c1, c2, c6⟩ := S13.out
                      obtain ⟨d0, d1, d2, d6⟩ := S5.out
                      go_wp2_with fail
                      refine (HOR.out _).mono ?_
                      rintro e X4 ⟨rfl, hb4⟩
                      have KX4 := Lib.hid (bstep hb4 KX3.out)
                      clear hb4
                      go_wp2_with fail
                      refine (HAW.out _ KX4.out).mono ?_
                      rintro e X9 ⟨rfl, hb9⟩
                      have K9 := Lib.hid (bstep hb9 KX4.out)
                      clear hb9
                      go_wp2_with fail
                      go_ret
                      first | exact ⟨rfl, K9.out⟩ | exact ⟨by simp [h4], K9.out⟩ | exact ⟨ret_bool (by simp; omega), K9.out⟩
                    · obtain rfl : bA = false := by rw [eA]; simp [h4]
                      clear eA
                      obtain ⟨x0, x1, x2, x3, x4, x5, x6, x7⟩ := GEW.out
                      go_wp2_with fail
                      refine (HRG.out W0 GFW.out).mono ?_
                      rintro e w1 ⟨rfl, hb1⟩
                      have K1 := Lib.hid (bstep hb1 KW.out)
                      have P8 := Lib.hid (HW8.out.grow hb1)
                      have P9 := Lib.hid (HW9.out.grow hb1)
                      have V5 := Lib.hid (GVW.out.grow hb1)
                      clear hb1 x0 x1 x2 x3 x4 x5 x6 x7 HRG HW7 HW8 HW9 GFW GEW GVW KW
                      go_upto_region 7 with fail
                      refine wp_genC (fun v => Hid (PBox v g8 ⟨#[101, 113]⟩ n1 x n s1 (.slice none 0 0)) ∧ Hid (PBox v g9 ⟨#[104, 97, 115]⟩ n1 false 0 ⟨#[]⟩ (.slice none 0 0)) ∧ Hid (VB3 v w1.heap.size x n gs) ∧ Hid (VB3 v (w.heap.size + 1) x n s1) ∧ Hid (Below w.heap.size w v)) ⟨P8.out.grow (balloc _ (.refl _ _)), P9.out.grow (balloc _ (.refl _ _)), VB3.new w1 x n gs 23, V5.out.grow (balloc _ (.refl _ _)), balloc _ K1.out⟩ ?_
                      rintro X ⟨Q8, Q9, Q13, Q5, KX⟩
                      generalize w1.heap.size = B13 at Q13 ⊢
                      clear K1 P8 P9 V5
                      obtain ⟨c0, c1, c2, c3, c4, c5, c6⟩ := Q9.out
                      go_wp2_with fail
                      refine (HMH.out X KX.out).mono ?_
                      rintro e X2 ⟨rfl, hb2⟩
                      have KX2 := Lib.hid (bstep hb2 KX.out)
                      have R8 := Lib.hid (Q8.out.grow hb2)
                      have R13 := Lib.hid (Q13.out.grow hb2)
                      have R5 := Lib.hid (Q5.out.grow hb2)
                      clear c0 c1 c2 c3 c4 c5 c6 hb2 Q8 Q9 Q13 Q5 KX HMH
                      obtain ⟨c0, c1, c2, c3, c4, c5, c6⟩ := R8.out
                      go_wp2_with fail
                      refine (HME.out X2 KX2.out).mono ?_
                      rintro e X3 ⟨rfl, hb3⟩
                      have KX3 := Lib.hid (bstep hb3 KX2.out)
                      have S13 := Lib.hid (R13.out.grow hb3)
                      have S5 := Lib.hid (R5.out.grow hb3)
                      clear c0 c1 c2 c3 c4 c5 c6 hb3 R8 R13 R5 KX2 HME
                      obtain ⟨c0, c1, c2, c6⟩ := S13.out
                      obtain ⟨d0, d1, d2, d6⟩ := S5.out
                      go_wp2_with fail
                      refine (HOR.out _).mono ?_
                      rintro e X4 ⟨rfl, hb4⟩
                      have KX4 := Lib.hid (bstep hb4 KX3.out)
                      clear hb4
                      go_wp2_with fail
                      refine (HAW.out _ KX4.out).mono ?_
                      rintro e X9 ⟨rfl, hb9⟩
                      have K9 := Lib.hid (bstep hb9 KX4.out)
                      clear hb9
                      go_wp2_with fail
                      go_ret
                      first | exact ⟨rfl, K9.out⟩ | exact ⟨by simp [h4], K9.out⟩ | exact ⟨ret_bool (by simp; omega), K9.out⟩
                · obtain rfl : bB = false := by rw [eB]; exact decide_eq_false (fun h => h2 h.1.2)
                  clear hO eB
                  by_cases h4 : O < 0
                  · obtain rfl : bA = true := by rw [eA]; simp [h4]
                    clear eA
                    obtain ⟨x0, x1, x2, x3, x4, x5, x6, x7⟩ := GEW.out
                    go_wp2_with fail
                    refine (HRG.out W0 GFW.out).mono ?_
                    rintro e w1 ⟨rfl, hb1⟩
                    have K1 := Lib.hid (bstep hb1 KW.out)
                    have P8 := Lib.hid (HW8.out.grow hb1)
                    have P9 := Lib.hid (HW9.out.grow hb1)
                    have V5 := Lib.hid (GVW.out.grow hb1)
                    clear hb1 x0 x1 x2 x3 x4 x5 x6 x7 HRG HW7 HW8 HW9 GFW GEW GVW KW
                    go_upto_region 7 with fail
                    refine wp_genC (fun v => Hid (PBox v g8 ⟨#[101, 113]⟩ n1 x n s1 (.slice none 0 0)) ∧ Hid (PBox v g9 ⟨#[104, 97, 115]⟩ n1 false 0 ⟨#[]⟩ (.slice none 0 0)) ∧ Hid (VB3 v w1.heap.size x gn gs) ∧ Hid (VB3 v (w.heap.size + 1) x n s1) ∧ Hid (Below w.heap.size w v)) ⟨P8.out.grow (balloc _ (.refl _ _)), P9.out.grow (balloc _ (.refl _ _)), VB3.new w1 x gn gs 23, V5.out.grow (balloc _ (.refl _ _)), balloc _ K1.out⟩ ?_
                    rintro X ⟨Q8, Q9, Q13, Q5, KX⟩
                    generalize w1.heap.size = B13 at Q13 ⊢
                    clear K1 P8 P9 V5
                    obtain ⟨c0, c1, c2, c3, c4, c5, c6⟩ := Q9.out
                    go_wp2_with fail
                    refine (HMH.out X KX.out).mono ?_
                    rintro e X2 ⟨rfl, hb2⟩
                    have KX2 := Lib.hid (bstep hb2 KX.out)
                    have R8 := Lib.hid (Q8.out.grow hb2)
                    have R13 := Lib.hid (Q13.out.grow hb2)
                    have R5 := Lib.hid (Q5.out.grow hb2)
                    clear c0 c1 c2 c3 c4 c5 c6 hb2 Q8 Q9 Q13 Q5 KX HMH
                    obtain ⟨c0, c1, c2, c3, c4, c5, c6⟩ := R8.out
                    go_wp2_with fail
                    refine (HME.out X2 KX2.out).mono ?_
                    rintro e X3 ⟨rfl, hb3⟩
                    have KX3 := Lib.hid (bstep hb3 KX2.out)
                    have S13 := Lib.hid (R13.out.grow hb3)
                    have S5 := Lib.hid (R5.out.grow hb3)
                    clear c0 c1 c2 c3 c4 c5 c6 hb3 R8 R13 R5 KX2 HME
                    obtain ⟨c0, c1, c2, c6⟩ := S13.out
                    obtain ⟨d0, d1, d2, d6⟩ := S5.out
                    go_wp2_with fail
                    refine (HOR.out _).mono ?_
                    rintro e X4 ⟨rfl, hb4⟩
                    have KX4 := Lib.hid (bstep hb4 KX3.out)
                    clear hb4
                    go_wp2_with fail
                    refine (HAW.out _ KX4.out).mono ?_
                    rintro e X9 ⟨rfl, hb9⟩
                    have K9 := Lib.hid (bstep hb9 KX4.out)
                    clear hb9
                    go_wp2_with fail
                    go_ret
                    first | exact ⟨rfl, K9.out⟩ | exact ⟨by simp [h4], K9.out⟩ | exact ⟨ret_bool (by simp; omega), K9.out⟩
                  · obtain rfl : bA = false := by rw [eA]; simp [h4]
                    clear eA
                    obtain ⟨x0, x1, x2, x3, x4, x5, x6, x7⟩ := GEW.out
                    go_wp2_with fail
                    refine (HRG.out W0 GFW.out).mono ?_
                    rintro e w1 ⟨rfl, hb1⟩
                    have K1 := Lib.hid (bstep hb1 KW.out)
                    have P8 := Lib.hid (HW8.out.grow hb1)
                    have P9 := Lib.hid (HW9.out.grow hb1)
                    have V5 := Lib.hid (GVW.out.grow hb1)
                    clear hb1 x0 x1 x2 x3 x4 x5 x6 x7 HRG HW7 HW8 HW9 GFW GEW GVW KW
                    go_upto_region 7 with fail
                    refine wp_genC (fun v => Hid (PBox v g8 ⟨#[101, 113]⟩ n1 x n s1 (.slice none 0 0)) ∧ Hid (PBox v g9 ⟨#[104, 97, 115]⟩ n1 false 0 ⟨#[]⟩ (.slice none 0 0)) ∧ Hid (VB3 v w1.heap.size x gn gs) ∧ Hid (VB3 v (w.heap.size + 1) x n s1) ∧ Hid (Below w.heap.size w v)) ⟨P8.out.grow (balloc _ (.refl _ _)), P9.out.grow (balloc _ (.refl _ _)), VB3.new w1 x gn gs 23, V5.out.grow (balloc _ (.refl _ _)), balloc _ K1.out⟩ ?_
                    rintro X ⟨Q8, Q9, Q13, Q5, KX⟩
                    generalize w1.heap.size = B13 at Q13 ⊢
                    clear K1 P8 P9 V5
                    obtain ⟨c0, c1, c2, c3, c4, c5, c6⟩ := Q9.out
                    go_wp2_with fail
                    refine (HMH.out X KX.out).mono ?_
                    rintro e X2 ⟨rfl, hb2⟩
                    have KX2 := Lib.hid (bstep hb2 KX.out)
                    have R8 := Lib.hid (Q8.out.grow hb2)
                    have R13 := Lib.hid (Q13.out.grow hb2)
                    have R5 := Lib.hid (Q5.out.grow hb2)
                    clear c0 c1 c2 c3 c4 c5 c6 hb2 Q8 Q9 Q13 Q5 KX HMH
                    obtain ⟨c0, c1, c2, c3, c4, c5, c6⟩ := R8.out
                    go_wp2_with fail
                    refine (HME.out X2 KX2.out).mono ?_
                    rintro e X3 ⟨rfl, hb3⟩
                    have KX3 := Lib.hid (bstep hb3 KX2.out)
                    have S13 := Lib.hid (R13.out.grow hb3)
                    have S5 := Lib.hid (R5.out.grow hb3)
                    clear c0 c1 c2 c3 c4 c5 c6 hb3 R8 R13 R5 KX2 HME
                    obtain ⟨c0, c1, c2, c6⟩ := S13.out
                    obtain ⟨d0, d1, d2, d6⟩ := S5.out
                    go_wp2_with fail
                    refine (HOR.out _).mono ?_
                    rintro e X4 ⟨rfl, hb4⟩
                    have KX4 := Lib.hid (bstep hb4 KX3.out)
                    clear hb4
                    go_wp2_with fail
                    refine (HAW.out _ KX4.out).mono ?_
                    rintro e X9 ⟨rfl, hb9⟩
                    have K9 := Lib.hid (bstep hb9 KX4.out)
                    clear hb9
                    go_wp2_with fail
                    go_ret
                    first | exact ⟨rfl, K9.out⟩ | exact ⟨by simp [h4], K9.out⟩ | exact ⟨ret_bool (by simp; omega), K9.out⟩
              · obtain rfl : bA = false := by rw [eA]; simp [h1]
                obtain rfl : bB = false := by rw [eB]; exact decide_eq_false (fun h => h1 h.1.1)
                clear hO eA eB HOR
                obtain ⟨x0, x1, x2, x3, x4, x5, x6, x7⟩ := GEW.out
                go_wp2_with fail
                refine (HRG.out W0 GFW.out).mono ?_
                rintro e w1 ⟨rfl, hb1⟩
                have K1 := Lib.hid (bstep hb1 KW.out)
                have P8 := Lib.hid (HW8.out.grow hb1)
                have P9 := Lib.hid (HW9.out.grow hb1)
                have V5 := Lib.hid (GVW.out.grow hb1)
                clear hb1 x0 x1 x2 x3 x4 x5 x6 x7 HRG HW7 HW8 HW9 GFW GEW GVW KW
                go_upto_region 7 with fail
                refine wp_genC (fun v => Hid (PBox v g8 ⟨#[101, 113]⟩ n1 x n s1 (.slice none 0 0)) ∧ Hid (PBox v g9 ⟨#[104, 97, 115]⟩ n1 false 0 ⟨#[]⟩ (.slice none 0 0)) ∧ Hid (VB3 v w1.heap.size gnum gn gs) ∧ Hid (VB3 v (w.heap.size + 1) x n s1) ∧ Hid (Below w.heap.size w v)) ⟨P8.out.grow (balloc _ (.refl _ _)), P9.out.grow (balloc _ (.refl _ _)), VB3.new w1 gnum gn gs 23, V5.out.grow (balloc _ (.refl _ _)), balloc _ K1.out⟩ ?_
                rintro X ⟨Q8, Q9, Q13, Q5, KX⟩
                generalize w1.heap.size = B13 at Q13 ⊢
                clear K1 P8 P9 V5
                obtain ⟨c0, c1, c2, c3, c4, c5, c6⟩ := Q9.out
                go_wp2_with fail
                refine (HMH.out X KX.out).mono ?_
                rintro e X2 ⟨rfl, hb2⟩
                have KX2 := Lib.hid (bstep hb2 KX.out)
                have R8 := Lib.hid (Q8.out.grow hb2)
                have R13 := Lib.hid (Q13.out.grow hb2)
                have R5 := Lib.hid (Q5.out.grow hb2)
                clear c0 c1 c2 c3 c4 c5 c6 hb2 Q8 Q9 Q13 Q5 KX HMH
                obtain ⟨c0, c1, c2, c3, c4, c5, c6⟩ := R8.out
                go_wp2_with fail
                refine (HME.out X2 KX2.out).mono ?_
                rintro e X3 ⟨rfl, hb3⟩
                have KX3 := Lib.hid (bstep hb3 KX2.out)
                have S13 := Lib.hid (R13.out.grow hb3)
                have S5 := Lib.hid (R5.out.grow hb3)
                clear c0 c1 c2 c3 c4 c5 c6 hb3 R8 R13 R5 KX2 HME
                obtain ⟨c0, c1, c2, c6⟩ := S13.out
                obtain ⟨d0, d1, d2, d6⟩ := S5.out
                go_wp2_with fail
                refine (HAW.out _ KX3.out).mono ?_
                rintro e X9 ⟨rfl, hb9⟩
                have K9 := Lib.hid (bstep hb9 KX3.out)
                clear hb9
                go_wp2_with fail
                go_ret
                first | exact ⟨rfl, K9.out⟩ | exact ⟨by simp [h4], K9.out⟩ | exact ⟨ret_bool (by simp; omega), K9.out⟩
end Go.Proofs.YtmmdblpoecidaaaDoor
