/- The walk of ValLays: the octets, the written form, what may be and the order are the document s; read back as it was. -/
import Derived.Test.YtmagghfegikidaaDoorProg
import Derived.WalkKit
import Derived.WalkSpells
import Derived.WalkLawsBesides
import Derived.Lib.Hide
import Derived.Deep.RegionWith
import Derived.Deep.Cut
import Derived.Test.YtmagghfegikidaaDoorBehind
import Derived.Test.YtmagghfegikidaaDoorDraw2
import Derived.Test.YtmagghfegikidaaDoorBoxes2
set_option linter.unusedVariables false
set_option linter.unusedSimpArgs false
namespace Tryst2
open Go Go.RowKit
@[go_sem] theorem boolOf_bool (b : Bool) : boolOf (.bool b) = some b := rfl
theorem wantedV_some (dsts : List (Option Nat)) (tv : Nat → Value) (j : Nat) (want : Bool) : wantedV dsts tv (some (j, want)) = (match (dsts[j]?).bind id with | some d => boolOf (tv d) == some want | none => none == some want) := rfl
end Tryst2
namespace Go.Proofs.YtmagghfegikidaaDoor
open Go.RowKit Tryst
set_option maxHeartbeats 400000
set_option maxRecDepth 20000
theorem wp_genL {C : Code} {P : Program} {Q : Exit → Act → World → Prop} {a : Act} {W : World} (F : World → Prop) (h : F W) (k : ∀ w1, F w1 → C.wp P Q a w1) : C.wp P Q a W := k W h
theorem lays_facts {x : Bool} {n : Int} {s : ByteArray} (hs : s.size ≤ 70) (hl : -9223372036854775808 ≤ n) (hh : n ≤ 9223372036854775807) (ha : V.May ⟨x, n, s.data.toList⟩) :
    ∃ TA WA : ByteArray, TA.size ≤ 71 ∧ WA.size ≤ 200 ∧
      (∀ w, Calls Tryd.prog 14 #[.agg #[.bool x, .int .i64 n, .string s]] w fun e w' => e = .returned (.tuple #[.string TA, .int .i64 0]) ∧ Below w.heap.size w w') ∧
      (∀ w, Tab w → Calls Tryd.prog 15 #[.agg #[.bool x, .int .i64 n, .string s]] w fun e w' => e = .returned (.tuple #[.string WA, .int .i64 0]) ∧ Below w.heap.size w w') ∧
      (∀ w, Calls Tryd.prog 22 #[.agg #[.bool x, .int .i64 n, .string s]] w fun e w' => e = .returned (.string TA) ∧ Below w.heap.size w w') ∧
      (∀ w, Calls Tryd.prog 23 #[.agg #[.bool x, .int .i64 n, .string s]] w fun e w' => e = .returned (.string WA) ∧ Below w.heap.size w w') ∧
      (∀ w, Calls Tryd.prog 18 #[.string TA] w fun e w' => e = .returned (.tuple #[.agg #[.bool x, .int .i64 n, .string s], .int .i64 TA.size, .int .i64 0]) ∧ Below w.heap.size w w') ∧
      (∀ w, Calls Tryd.prog 10 #[.string WA] w fun e w' => e = .returned (.tuple #[.agg #[.bool x, .int .i64 n, .string s], .int .i64 WA.size, .int .i64 0]) ∧ Below w.heap.size w w') := by
  have fa : V.Fits ⟨x, n, s.data.toList⟩ := ⟨hl, hh⟩
  have sz : ∀ l : List UInt8, (ByteArray.mk l.toArray).size = l.length := fun l => by simp [ByteArray.size]
  have h1 : (ByteArray.mk (V.lay ⟨x, n, s.data.toList⟩).toArray).size ≤ 71 := by rw [sz]; exact lay_le _ ha
  have h2 : (ByteArray.mk (V.write ⟨x, n, s.data.toList⟩).toArray).size ≤ 200 := by rw [sz]; exact write_le _ ha fa
  have t1 := take_c (ByteArray.mk (V.lay ⟨x, n, s.data.toList⟩).toArray) (by omega)
  have hk := take_lay _ ha fa []
  rw [List.append_nil] at hk
  rw [mk_str, hk, ← sz] at t1
  have t2 := read_c (ByteArray.mk (V.write ⟨x, n, s.data.toList⟩).toArray) (by omega)
  rw [mk_str, read_write _ ha fa, ← sz] at t2
  have hne : (ByteArray.mk (V.write ⟨x, n, s.data.toList⟩).toArray).size ≠ 0 := by
    intro h
    have := read_write _ ha fa
    rw [sz] at h
    rw [List.length_eq_zero_iff.1 h] at this
    have h3 := congrArg Prod.snd this
    rw [List.length_eq_zero_iff.1 h] at h2
    have h4 : V.write ⟨x, n, s.data.toList⟩ ≠ [] := by
      unfold V.write
      split
      · exact itoa_ne _
      · simp [Tryst.wr]
    exact h4 (List.length_eq_zero_iff.1 h)
  rw [readE_pos hne] at t2
  exact ⟨_, _, h1, h2, fun w => lay_yes (by omega) hl hh ha w, fun w hT => write_yes (by omega) hl hh ha w hT, fun w => rlay_c (by omega) hl hh w, fun w => rwrite_c (by omega) hl hh w, t1, t2⟩
set_option maxHeartbeats 4000000 in
theorem valLays_c (x0 : Bool) (n0 : Int) (s0 : ByteArray) (hs0 : s0.size ≤ 9223372036854775807) (hl0 : -9223372036854775808 ≤ n0) (hh0 : n0 ≤ 9223372036854775807)
    (x1 : Bool) (n1 : Int) (s1 : ByteArray) (hs1 : s1.size ≤ 9223372036854775807) (hl1 : -9223372036854775808 ≤ n1) (hh1 : n1 ≤ 9223372036854775807) (w : World) (hT : Tab w) :
    Calls Tryd.prog 9 #[.agg #[.bool x0, .int .i64 n0, .string s0], .agg #[.bool x1, .int .i64 n1, .string s1]] w fun e w' => e = .returned (.bool true) ∧ Below w.heap.size w w' := by
  have HT := Lib.hid hT
  clear hT
  have hf0 := few_le s0
  have hf1 := few_le s1
  go_enter Tryd.func9, Tryd.ntmps9
  go_wp2_with fail
  refine Tryst2.wp_region_grows [.is (.agg #[.bool x0, .int .i64 n0, .string s0]), .is (.agg #[.bool x0, .int .i64 n0, .string (few s0)]), .is (.agg #[.bool x1, .int .i64 n1, .string s1]), .is (.agg #[.bool x1, .int .i64 n1, .string (few s1)])] (by kernel_rfl) (by kernel_rfl) ?obl ?fin
  case obl =>
    simp only [Tryst2.AllObl, Tryst2.dstL, Tryst2.Obl, Tryst2.depsOf, Tryst2.binds_data, Tryst2.binds_chain, Tryst2.binds_phase, Tryst2.binds_guard, Tryst2.binds_text, Bool.false_eq_true, if_false, List.filterMap_cons_some, List.filterMap_cons_none, Tryst2.depsR, Tryst2.holdR, Tryst2.tmpsOf, Op.operands, Call.operands, Tryst2.Rsp.pred, Tryst2.wantedV_none, if_true, List.map_cons, List.map_nil, List.take_succ_cons, List.take_zero, List.length_cons, List.length_nil, List.getElem?_cons_zero, List.getElem?_cons_succ, Option.bind_some, id, List.getD_cons_zero, List.getD_cons_succ, Tryst2.isDst, List.filterMap_cons, List.filterMap_nil, List.toList_toArray]
    repeat' apply And.intro
    any_goals trivial
    all_goals (intro tv w' hg hold hd; (try simp at hold); obtain ⟨hcg, hfg⟩ := Tryst2.Grow.cells hg; have hsg := Tryst2.Grow.le hg)
    all_goals first | (go_simp; done) | (go_simp; rw [if_neg (by omega)]; exact ⟨.refl _, rfl⟩) | (obtain ⟨⟨g, hvg, hgg, hcell⟩, _⟩ := hd; have hcell0 := hcell 0 (by decide); simp at hcell0; go_simp; done) | (go_simp; go_at_call 13; refine (fewAll_c _ _ _ (by assumption) _).mono ?_; rintro e w2 ⟨rfl, hb2⟩; exact ⟨hb2, rfl⟩)
  case fin =>
    intro tv w' hg hR
    simp only [Tryst2.allR, Tryst2.dstL, Tryst2.Rsp.pred, List.map_cons, List.map_nil, List.take_succ_cons, List.take_zero, List.length_cons, List.length_nil, List.tail_cons, List.toList_toArray] at hR
    obtain ⟨hcg, hfg⟩ := Tryst2.Grow.cells hg
    have hsg := Tryst2.Grow.le hg
    simp only [Tryst2.putAll, Tryst2.dstL, List.map_cons, List.map_nil, List.take_succ_cons, List.take_zero, List.length_cons, List.length_nil, List.toList_toArray, List.drop_succ_cons, List.drop_zero, Act.put, List.setIfInBounds_toArray, List.set_cons_zero, List.set_cons_succ, hR]
    go_upto_region 2 with fail
    have hz1 : w.heap.size + 2 ≤ w'.heap.size := (by (try simp at hsg); omega)
    have T1 := (Two.new w 23 (x0 := x0) (n0 := n0) (s0 := s0) (x1 := x1) (n1 := n1) (s1 := s1)).grow (by simp) hcg
    refine wp_genL (fun v => Two v w.heap.size x0 n0 (few s0) x1 n1 (few s1) ∧ w.heap.size + 2 ≤ v.heap.size ∧ Below w.heap.size w v) ?_ ?_
    · refine ⟨T1.set, by simpa using hz1, ?_⟩
      (repeat (first | with_reducible exact Below.refl _ _ | with_reducible assumption | with_reducible refine bdrew ?_ | with_reducible refine balloc _ ?_ | with_reducible refine bset _ (by simp <;> omega) ?_ | with_reducible refine bstep (by assumption) ?_ | with_reducible refine Grow.below (by assumption) ?_ | with_reducible refine Tryst2.Grow.below (by assumption) ?_))
    clear T1 hz1 hcg hfg hsg hR hg hs0 hs1
    rintro w1 ⟨⟨a0, a1, a2, b0, b1, b2⟩, hz1, hB⟩
    have HB1 := Lib.hid hB
    clear hB
    have k0 : w.heap.size < w1.heap.size := by omega
    have k1 : w.heap.size + 1 < w1.heap.size := by omega
    clear hz1
    obtain ⟨O, hO⟩ : ∃ O, V.order ⟨x0, n0, (few s0).data.toList⟩ ⟨x1, n1, (few s1).data.toList⟩ = O := ⟨_, rfl⟩
    have ho1 := order_c x0 x1 n0 n1 (few s0) (few s1)
    have ho2 := rorder_c x0 x1 n0 n1 (few s0) (few s1)
    rw [hO] at ho1 ho2
    have HO1 := Lib.hid ho1
    have HO2 := Lib.hid ho2
    have hm1 := may_c x0 n0 (few s0) (by omega)
    have hm2 := rmay_c x0 n0 (few s0) (by omega)
    clear hO ho1 ho2
    by_cases ha : V.May ⟨x0, n0, (few s0).data.toList⟩
    · rw [show V.mayB ⟨x0, n0, (few s0).data.toList⟩ = true from decide_eq_true ha] at hm1 hm2
      have HM1 := Lib.hid hm1
      have HM2 := Lib.hid hm2
      obtain ⟨TA, WA, f1, f2, hLA, hWA, hRL, hRW, hTK, hRD⟩ := lays_facts hf0 hl0 hh0 ha
      have HL := Lib.hid hLA
      have HW := Lib.hid hWA
      have HRL := Lib.hid hRL
      have HRW := Lib.hid hRW
      have HTK := Lib.hid hTK
      have HRD := Lib.hid hRD
      clear hLA hWA hRL hRW hTK hRD ha hm1 hm2
      go_wp2_with fail
      refine (HL.out _).mono ?_
      rintro e w2 ⟨rfl, hb2⟩
      obtain ⟨hc2, hf2⟩ := bcell hb2
      have hz2 : w1.heap.size ≤ w2.heap.size := hb2.size
      have i1 : w.heap.size + 1 < w2.heap.size := by omega
      have j1 : w.heap.size < w2.heap.size := by omega
      have HB2 := Lib.hid (bstep hb2 HB1.out)
      clear hb2
      go_wp2_with fail
      refine (HW.out _ (HT.out.grow HB2.out)).mono ?_
      rintro e w3 ⟨rfl, hb3⟩
      obtain ⟨hc3, hf3⟩ := bcell hb3
      have hz3 : w2.heap.size ≤ w3.heap.size := hb3.size
      have i2 : w.heap.size + 1 < w3.heap.size := by omega
      have j2 : w.heap.size < w3.heap.size := by omega
      have HB3 := Lib.hid (bstep hb3 HB2.out)
      clear hb3
      go_wp2_with fail
      refine Tryst2.wp_region_grows [.is (.agg #[.bool x0, .int .i64 n0, .string (few s0)]), .is (.bool true), .is (.agg #[.bool x0, .int .i64 n0, .string (few s0)]), .is (.bool true), .is (.bool false), .is (.bool false), .is (.agg #[.bool x0, .int .i64 n0, .string (few s0)]), .is (.agg #[.bool x1, .int .i64 n1, .string (few s1)]), .is (.int .i64 O), .is (.agg #[.bool x0, .int .i64 n0, .string (few s0)]), .is (.agg #[.bool x1, .int .i64 n1, .string (few s1)]), .is (.int .i64 O), .is (.bool false), .is (.bool false)] (by kernel_rfl) (by kernel_rfl) ?obl ?fin
      case obl =>
        simp only [Tryst2.AllObl, Tryst2.dstL, Tryst2.Obl, Tryst2.depsOf, Tryst2.binds_data, Tryst2.binds_chain, Tryst2.binds_phase, Tryst2.binds_guard, Tryst2.binds_text, Bool.false_eq_true, if_false, List.filterMap_cons_some, List.filterMap_cons_none, Tryst2.depsR, Tryst2.holdR, Tryst2.tmpsOf, Op.operands, Call.operands, Tryst2.Rsp.pred, Tryst2.wantedV_none, Tryst2.wantedV_some, if_true, List.map_cons, List.map_nil, List.take_succ_cons, List.take_zero, List.length_cons, List.length_nil, List.getElem?_cons_zero, List.getElem?_cons_succ, Option.bind_some, id, List.getD_cons_zero, List.getD_cons_succ, Tryst2.isDst, List.filterMap_cons, List.filterMap_nil, List.toList_toArray]
        repeat' apply And.intro
        any_goals trivial
        all_goals (intro tv w' hg hold hd; (try simp at hold); obtain ⟨hcg, hfg⟩ := Tryst2.Grow.cells hg; have hsg := Tryst2.Grow.le hg)
        all_goals first | (go_simp; done) | (go_simp; rw [if_neg (by omega)]; exact ⟨.refl _, rfl⟩) | (obtain ⟨⟨g, hvg, hgg, hcell⟩, _⟩ := hd; have hcell0 := hcell 0 (by decide); simp at hcell0; go_simp; done) | (go_simp; (first | with_reducible refine (HM1.out _).mono ?_ | with_reducible refine (HM2.out _).mono ?_ | with_reducible refine (HO1.out _).mono ?_ | with_reducible refine (HO2.out _).mono ?_); rintro e w2 ⟨rfl, hb2⟩; exact ⟨hb2, rfl⟩)
      case fin =>
        intro tv w' hg hR
        simp only [Tryst2.allR, Tryst2.dstL, Tryst2.Rsp.pred, List.map_cons, List.map_nil, List.take_succ_cons, List.take_zero, List.length_cons, List.length_nil, List.tail_cons, List.toList_toArray] at hR
        obtain ⟨hcg, hfg⟩ := Tryst2.Grow.cells hg
        have hsg := Tryst2.Grow.le hg
        simp only [Tryst2.putAll, Tryst2.dstL, List.map_cons, List.map_nil, List.take_succ_cons, List.take_zero, List.length_cons, List.length_nil, List.toList_toArray, List.drop_succ_cons, List.drop_zero, Act.put, List.setIfInBounds_toArray, List.set_cons_zero, List.set_cons_succ, hR]
        have i4 : w.heap.size + 1 < w'.heap.size := by omega
        have j4 : w.heap.size < w'.heap.size := by omega
        have HB4 := Lib.hid (Tryst2.Grow.below hg HB3.out)
        clear hg hR
        go_wp2_with fail
        refine (HM2.out _).mono ?_
        rintro e w5 ⟨rfl, hb5⟩
        obtain ⟨hc5, hf5⟩ := bcell hb5
        have hz5 : w'.heap.size ≤ w5.heap.size := hb5.size
        have i5 : w.heap.size + 1 < w5.heap.size := by omega
        have j5 : w.heap.size < w5.heap.size := by omega
        have HB5 := Lib.hid (bstep hb5 HB4.out)
        clear hb5
        go_wp2_with fail
        refine (HTK.out _).mono ?_
        rintro e w6 ⟨rfl, hb6⟩
        obtain ⟨hc6, hf6⟩ := bcell hb6
        have hz6 : w5.heap.size ≤ w6.heap.size := hb6.size
        have i5 : w.heap.size + 1 < w6.heap.size := by omega
        have j5 : w.heap.size < w6.heap.size := by omega
        have HB6 := Lib.hid (bstep hb6 HB5.out)
        clear hb6
        go_wp2_with fail
        refine (HRD.out _).mono ?_
        rintro e w7 ⟨rfl, hb7⟩
        obtain ⟨hc7, hf7⟩ := bcell hb7
        have hz7 : w6.heap.size < w7.heap.size := (by have := hb7.size; simp at this; omega)
        have i6 : w.heap.size + 1 < w7.heap.size := by omega
        have j6 : w.heap.size < w7.heap.size := by omega
        have HB7 := Lib.hid (bstep hb7 (balloc _ HB6.out))
        clear hb7
        go_wp2_with fail
        refine (HRL.out _).mono ?_
        rintro e w8 ⟨rfl, hb8⟩
        obtain ⟨hc8, hf8⟩ := bcell hb8
        have hz8 : w7.heap.size < w8.heap.size := (by have := hb8.size; simp at this; omega)
        have i7 : w.heap.size + 1 < w8.heap.size := by omega
        have j7 : w.heap.size < w8.heap.size := by omega
        have l7 : w6.heap.size < w8.heap.size := by omega
        have HB8 := Lib.hid (bstep hb8 (balloc _ HB7.out))
        clear hb8
        go_wp2_with fail
        refine (HRW.out _).mono ?_
        rintro e w9 ⟨rfl, hb9⟩
        obtain ⟨hc9, hf9⟩ := bcell hb9
        have hz9 : w8.heap.size ≤ w9.heap.size := hb9.size
        have i8 : w.heap.size + 1 < w9.heap.size := by omega
        have j8 : w.heap.size < w9.heap.size := by omega
        have l8 : w6.heap.size < w9.heap.size := by omega
        have l9 : w7.heap.size < w9.heap.size := by omega
        have HB9 := Lib.hid (bstep hb9 HB8.out)
        clear hb9
        go_wp2_with fail
        refine (awake_c _ (HT.out.grow HB9.out)).mono ?_
        rintro e w10 ⟨rfl, hb10⟩
        go_wp2_with fail
        go_ret
        exact ⟨rfl, bstep hb10 HB9.out⟩
    · rw [show V.mayB ⟨x0, n0, (few s0).data.toList⟩ = false from decide_eq_false ha] at hm1 hm2
      have HM1 := Lib.hid hm1
      have HM2 := Lib.hid hm2
      have HL := Lib.hid (lay_no (by omega : (few s0).size ≤ 1000000000) ha)
      have HW := Lib.hid (write_no (by omega : (few s0).size ≤ 1000000000) ha)
      clear ha hm1 hm2
      go_wp2_with fail
      refine (HL.out _).mono ?_
      rintro e w2 ⟨rfl, hb2⟩
      obtain ⟨hc2, hf2⟩ := bcell hb2
      have hz2 : w1.heap.size ≤ w2.heap.size := hb2.size
      have i1 : w.heap.size + 1 < w2.heap.size := by omega
      have j1 : w.heap.size < w2.heap.size := by omega
      have HB2 := Lib.hid (bstep hb2 HB1.out)
      clear hb2
      go_wp2_with fail
      refine (HW.out _).mono ?_
      rintro e w3 ⟨rfl, hb3⟩
      obtain ⟨hc3, hf3⟩ := bcell hb3
      have hz3 : w2.heap.size ≤ w3.heap.size := hb3.size
      have i2 : w.heap.size + 1 < w3.heap.size := by omega
      have j2 : w.heap.size < w3.heap.size := by omega
      have HB3 := Lib.hid (bstep hb3 HB2.out)
      clear hb3
      go_wp2_with fail
      refine Tryst2.wp_region_grows [.is (.agg #[.bool x0, .int .i64 n0, .string (few s0)]), .is (.bool false), .is (.agg #[.bool x0, .int .i64 n0, .string (few s0)]), .is (.bool false), .is (.bool false), .is (.bool false), .is (.agg #[.bool x0, .int .i64 n0, .string (few s0)]), .is (.agg #[.bool x1, .int .i64 n1, .string (few s1)]), .is (.int .i64 O), .is (.agg #[.bool x0, .int .i64 n0, .string (few s0)]), .is (.agg #[.bool x1, .int .i64 n1, .string (few s1)]), .is (.int .i64 O), .is (.bool false), .is (.bool false)] (by kernel_rfl) (by kernel_rfl) ?obl ?fin
      case obl =>
        simp only [Tryst2.AllObl, Tryst2.dstL, Tryst2.Obl, Tryst2.depsOf, Tryst2.binds_data, Tryst2.binds_chain, Tryst2.binds_phase, Tryst2.binds_guard, Tryst2.binds_text, Bool.false_eq_true, if_false, List.filterMap_cons_some, List.filterMap_cons_none, Tryst2.depsR, Tryst2.holdR, Tryst2.tmpsOf, Op.operands, Call.operands, Tryst2.Rsp.pred, Tryst2.wantedV_none, Tryst2.wantedV_some, if_true, List.map_cons, List.map_nil, List.take_succ_cons, List.take_zero, List.length_cons, List.length_nil, List.getElem?_cons_zero, List.getElem?_cons_succ, Option.bind_some, id, List.getD_cons_zero, List.getD_cons_succ, Tryst2.isDst, List.filterMap_cons, List.filterMap_nil, List.toList_toArray]
        repeat' apply And.intro
        any_goals trivial
        all_goals (intro tv w' hg hold hd; (try simp at hold); obtain ⟨hcg, hfg⟩ := Tryst2.Grow.cells hg; have hsg := Tryst2.Grow.le hg)
        all_goals first | (go_simp; done) | (go_simp; rw [if_neg (by omega)]; exact ⟨.refl _, rfl⟩) | (obtain ⟨⟨g, hvg, hgg, hcell⟩, _⟩ := hd; have hcell0 := hcell 0 (by decide); simp at hcell0; go_simp; done) | (go_simp; (first | with_reducible refine (HM1.out _).mono ?_ | with_reducible refine (HM2.out _).mono ?_ | with_reducible refine (HO1.out _).mono ?_ | with_reducible refine (HO2.out _).mono ?_); rintro e w2 ⟨rfl, hb2⟩; exact ⟨hb2, rfl⟩)
      case fin =>
        intro tv w' hg hR
        simp only [Tryst2.allR, Tryst2.dstL, Tryst2.Rsp.pred, List.map_cons, List.map_nil, List.take_succ_cons, List.take_zero, List.length_cons, List.length_nil, List.tail_cons, List.toList_toArray] at hR
        obtain ⟨hcg, hfg⟩ := Tryst2.Grow.cells hg
        have hsg := Tryst2.Grow.le hg
        simp only [Tryst2.putAll, Tryst2.dstL, List.map_cons, List.map_nil, List.take_succ_cons, List.take_zero, List.length_cons, List.length_nil, List.toList_toArray, List.drop_succ_cons, List.drop_zero, Act.put, List.setIfInBounds_toArray, List.set_cons_zero, List.set_cons_succ, hR]
        have i4 : w.heap.size + 1 < w'.heap.size := by omega
        have j4 : w.heap.size < w'.heap.size := by omega
        have HB4 := Lib.hid (Tryst2.Grow.below hg HB3.out)
        clear hg hR
        go_wp2_with fail
        refine (HM2.out _).mono ?_
        rintro e w5 ⟨rfl, hb5⟩
        have HB5 := Lib.hid (bstep hb5 HB4.out)
        clear hb5
        go_wp2_with fail
        refine (awake_c _ (HT.out.grow HB5.out)).mono ?_
        rintro e w9 ⟨rfl, hb9⟩
        go_wp2_with fail
        go_ret
        exact ⟨rfl, bstep hb9 HB5.out⟩
end Go.Proofs.YtmagghfegikidaaDoor
