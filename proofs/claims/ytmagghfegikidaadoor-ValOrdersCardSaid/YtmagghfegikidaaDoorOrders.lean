/- The walk of ValOrders: the order is one of three, turned round, carried on, and nought only of equals. -/
import Derived.Test.YtmagghfegikidaaDoorProg
import Derived.WalkKit
import Derived.WalkSpells
import Derived.WalkLawsBesides
import Derived.Lib.Hide
import Derived.Deep.RegionWith
import Derived.Test.YtmagghfegikidaaDoorBehind
import Derived.Test.YtmagghfegikidaaDoorDraw2
import Derived.Test.YtmagghfegikidaaDoorBoxes
set_option linter.unusedVariables false
set_option linter.unusedSimpArgs false
namespace Go.Proofs.YtmagghfegikidaaDoor
open Go.RowKit Tryst
set_option maxHeartbeats 400000
set_option maxRecDepth 20000
theorem order_cases (a b : V) : a.order b = -1 ∨ a.order b = 0 ∨ a.order b = 1 := by
  unfold V.order
  split
  · split
    · split
      · simp
      · split <;> simp
    · simp
  · split
    · simp
    · exact cmp_cases _ _
set_option maxHeartbeats 4000000 in
theorem valOrders_c (x0 : Bool) (n0 : Int) (s0 : ByteArray) (hs0 : s0.size ≤ 9223372036854775807) (hl0 : -9223372036854775808 ≤ n0) (hh0 : n0 ≤ 9223372036854775807)
    (x1 : Bool) (n1 : Int) (s1 : ByteArray) (hs1 : s1.size ≤ 9223372036854775807) (hl1 : -9223372036854775808 ≤ n1) (hh1 : n1 ≤ 9223372036854775807)
    (x2 : Bool) (n2 : Int) (s2 : ByteArray) (hs2 : s2.size ≤ 9223372036854775807) (hl2 : -9223372036854775808 ≤ n2) (hh2 : n2 ≤ 9223372036854775807) (w : World) (hT : Tab w) :
    Calls Tryd.prog 6 #[.agg #[.bool x0, .int .i64 n0, .string s0], .agg #[.bool x1, .int .i64 n1, .string s1], .agg #[.bool x2, .int .i64 n2, .string s2]] w fun e w' => e = .returned (.bool true) ∧ Below w.heap.size w w' := by
  have HT := Lib.hid hT
  clear hT
  have hf0 := few_le s0
  have hf1 := few_le s1
  have hf2 := few_le s2
  have HZ := Lib.hid (@order_zero ⟨x0, n0, (few s0).data.toList⟩ ⟨x1, n1, (few s1).data.toList⟩)
  have HC := Lib.hid (order_cases ⟨x0, n0, (few s0).data.toList⟩ ⟨x1, n1, (few s1).data.toList⟩)
  have HN := Lib.hid (order_neg ⟨x1, n1, (few s1).data.toList⟩ ⟨x0, n0, (few s0).data.toList⟩)
  have HTr := Lib.hid (order_trans ⟨x0, n0, (few s0).data.toList⟩ ⟨x1, n1, (few s1).data.toList⟩ ⟨x2, n2, (few s2).data.toList⟩)
  go_enter Tryd.func6, Tryd.ntmps6
  go_wp2_with fail
  refine Tryst2.wp_region_grows [.is (.agg #[.bool x0, .int .i64 n0, .string s0]), .is (.agg #[.bool x0, .int .i64 n0, .string (few s0)]), .is (.agg #[.bool x1, .int .i64 n1, .string s1]), .is (.agg #[.bool x1, .int .i64 n1, .string (few s1)]), .is (.agg #[.bool x2, .int .i64 n2, .string s2]), .is (.agg #[.bool x2, .int .i64 n2, .string (few s2)])] (by kernel_rfl) (by kernel_rfl) ?obl ?fin
  case obl =>
    simp only [Tryst2.AllObl, Tryst2.dstL, Tryst2.Obl, Tryst2.depsOf, Tryst2.binds_data, Tryst2.binds_chain, Tryst2.binds_phase, Tryst2.binds_guard, Tryst2.binds_text, Bool.false_eq_true, if_false, List.filterMap_cons_some, List.filterMap_cons_none, Tryst2.depsR, Tryst2.holdR, Tryst2.tmpsOf, Op.operands, Call.operands, Tryst2.Rsp.pred, Tryst2.wantedV_none, if_true, List.map_cons, List.map_nil, List.take_succ_cons, List.take_zero, List.length_cons, List.length_nil, List.getElem?_cons_zero, List.getElem?_cons_succ, Option.bind_some, id, List.getD_cons_zero, List.getD_cons_succ, Tryst2.isDst, List.filterMap_cons, List.filterMap_nil, List.toList_toArray]
    repeat' apply And.intro
    any_goals trivial
    all_goals (intro tv w' hg hold hd; (try simp at hold); obtain ⟨hcg, hfg⟩ := Tryst2.Grow.cells hg; have hsg := Tryst2.Grow.le hg)
    all_goals first | (go_simp; done) | (go_simp; rw [if_neg (by omega)]; exact ⟨.refl _, rfl⟩) | (obtain ⟨⟨g, hvg, hgg, hcell⟩, _⟩ := hd; have hcell0 := hcell 0 (by decide); simp at hcell0; go_simp; done) | (go_simp; go_at_call 13; refine (fewAll_c _ _ _ (by assumption) _).mono ?_; rintro e w2 ⟨rfl, hb2⟩; exact ⟨hb2, rfl⟩)
  case fin =>
    intro tv w' hg hR
    simp only [Tryst2.allR, Tryst2.dstL, Tryst2.Rsp.pred, List.map_cons, List.map_nil, List.take_succ_cons, List.take_zero, List.length_cons, List.length_nil, List.tail_cons, List.toList_toArray] at hR
    obtain ⟨hcg, hfg⟩ := Tryst2.Grow.cells hg
    have hsg := Tryst2.Grow.le hg
    simp only [Tryst2.putAll, Tryst2.dstL, List.map_cons, List.map_nil, List.take_succ_cons, List.take_zero, List.length_cons, List.length_nil, List.toList_toArray, List.drop_succ_cons, List.drop_zero, Act.put, List.setIfInBounds_toArray, List.set_cons_zero, List.set_cons_succ, hR]
    go_wp2_with fail
    have hz1 : w.heap.size + 3 ≤ w'.heap.size := (by (try simp at hsg); omega)
    have T1 := (Three.new w 23 (x0 := x0) (n0 := n0) (s0 := s0) (x1 := x1) (n1 := n1) (s1 := s1) (x2 := x2) (n2 := n2) (s2 := s2)).grow (by simp) hcg
    refine wp_gen (fun v => Three v w.heap.size x0 n0 (few s0) x1 n1 (few s1) x2 n2 (few s2) ∧ w.heap.size + 3 ≤ v.heap.size ∧ Below w.heap.size w v) ?_ ?_
    · refine ⟨T1.set, by simpa using hz1, ?_⟩
      (repeat (first | with_reducible exact Below.refl _ _ | with_reducible assumption | with_reducible refine bdrew ?_ | with_reducible refine balloc _ ?_ | with_reducible refine bset _ (by simp <;> omega) ?_ | with_reducible refine bstep (by assumption) ?_ | with_reducible refine Grow.below (by assumption) ?_ | with_reducible refine Tryst2.Grow.below (by assumption) ?_))
    clear T1 hz1 hcg hfg hsg hR hg hs0 hs1 hs2 hl0 hl1 hl2 hh0 hh1 hh2 hf0 hf1 hf2
    rintro w1 ⟨⟨a0, a1, a2, b0, b1, b2, c0, c1, c2⟩, hz1, hB⟩
    have HB := Lib.hid hB
    clear hB
    have k0 : w.heap.size < w1.heap.size := by omega
    have k1 : w.heap.size + 1 < w1.heap.size := by omega
    have k2 : w.heap.size + 1 + 1 < w1.heap.size := by omega
    clear hz1
    refine Tryst2.wp_region_grows [.is (.agg #[.bool x0, .int .i64 n0, .string (few s0)]), .is (.agg #[.bool x1, .int .i64 n1, .string (few s1)]), .is (.int .i64 (V.order ⟨x0, n0, (few s0).data.toList⟩ ⟨x1, n1, (few s1).data.toList⟩)), .is (.agg #[.bool x1, .int .i64 n1, .string (few s1)]), .is (.agg #[.bool x2, .int .i64 n2, .string (few s2)]), .is (.int .i64 (V.order ⟨x1, n1, (few s1).data.toList⟩ ⟨x2, n2, (few s2).data.toList⟩)), .is (.agg #[.bool x0, .int .i64 n0, .string (few s0)]), .is (.agg #[.bool x2, .int .i64 n2, .string (few s2)]), .is (.int .i64 (V.order ⟨x0, n0, (few s0).data.toList⟩ ⟨x2, n2, (few s2).data.toList⟩)), .is (.int .i64 (V.order ⟨x0, n0, (few s0).data.toList⟩ ⟨x1, n1, (few s1).data.toList⟩)), .is (.int .i64 (V.order ⟨x1, n1, (few s1).data.toList⟩ ⟨x2, n2, (few s2).data.toList⟩)), .is (.int .i64 (V.order ⟨x0, n0, (few s0).data.toList⟩ ⟨x2, n2, (few s2).data.toList⟩))] (by kernel_rfl) (by kernel_rfl) ?obl ?fin
    case obl =>
      simp only [Tryst2.AllObl, Tryst2.dstL, Tryst2.Obl, Tryst2.depsOf, Tryst2.binds_data, Tryst2.binds_chain, Tryst2.binds_phase, Tryst2.binds_guard, Tryst2.binds_text, Bool.false_eq_true, if_false, List.filterMap_cons_some, List.filterMap_cons_none, Tryst2.depsR, Tryst2.holdR, Tryst2.tmpsOf, Op.operands, Call.operands, Tryst2.Rsp.pred, Tryst2.wantedV_none, if_true, List.map_cons, List.map_nil, List.take_succ_cons, List.take_zero, List.length_cons, List.length_nil, List.getElem?_cons_zero, List.getElem?_cons_succ, Option.bind_some, id, List.getD_cons_zero, List.getD_cons_succ, Tryst2.isDst, List.filterMap_cons, List.filterMap_nil, List.toList_toArray]
      repeat' apply And.intro
      any_goals trivial
      all_goals (intro tv w' hg hold hd; (try simp at hold); obtain ⟨hcg, hfg⟩ := Tryst2.Grow.cells hg; have hsg := Tryst2.Grow.le hg)
      all_goals first | (go_simp; done) | (go_simp; rw [if_neg (by omega)]; exact ⟨.refl _, rfl⟩) | (obtain ⟨⟨g, hvg, hgg, hcell⟩, _⟩ := hd; have hcell0 := hcell 0 (by decide); simp at hcell0; go_simp; done) | (go_simp; go_at_call 17; refine (order_c _ _ _ _ _ _ _).mono ?_; rintro e w2 ⟨rfl, hb2⟩; exact ⟨hb2, rfl⟩)
    case fin =>
      intro tv w' hg hR
      simp only [Tryst2.allR, Tryst2.dstL, Tryst2.Rsp.pred, List.map_cons, List.map_nil, List.take_succ_cons, List.take_zero, List.length_cons, List.length_nil, List.tail_cons, List.toList_toArray] at hR
      obtain ⟨hcg, hfg⟩ := Tryst2.Grow.cells hg
      have hsg := Tryst2.Grow.le hg
      simp only [Tryst2.putAll, Tryst2.dstL, List.map_cons, List.map_nil, List.take_succ_cons, List.take_zero, List.length_cons, List.length_nil, List.toList_toArray, List.drop_succ_cons, List.drop_zero, Act.put, List.setIfInBounds_toArray, List.set_cons_zero, List.set_cons_succ, hR]
      have hsz : w1.heap.size ≤ w'.heap.size := hsg
      have HB1 := Lib.hid (Tryst2.Grow.below hg HB.out)
      have j0 : w.heap.size < w'.heap.size := by omega
      have j1 : w.heap.size + 1 < w'.heap.size := by omega
      clear hg hR hsg HB
      go_wp2_with fail
      refine (order_c _ _ _ _ _ _ _).mono ?_
      rintro e w2 ⟨rfl, hb2⟩
      obtain ⟨hc2, hf2⟩ := bcell hb2
      have hz2 : w'.heap.size ≤ w2.heap.size := hb2.size
      have HB2 := Lib.hid (bstep hb2 HB1.out)
      have i0 : w.heap.size < w2.heap.size := by omega
      have i1 : w.heap.size + 1 < w2.heap.size := by omega
      clear hb2 HB1
      rw [HN.out]
      have hcs := HC.out
      have htr := HTr.out
      have hz := HZ.out
      clear HC HTr HZ HN
      generalize V.order ⟨x0, n0, (few s0).data.toList⟩ ⟨x1, n1, (few s1).data.toList⟩ = ab at *
      generalize V.order ⟨x1, n1, (few s1).data.toList⟩ ⟨x2, n2, (few s2).data.toList⟩ = bc at *
      generalize V.order ⟨x0, n0, (few s0).data.toList⟩ ⟨x2, n2, (few s2).data.toList⟩ = ac at *
      have HZ := Lib.hid hz
      clear hz
      have hk : ab = 1 ∨ (ab ≤ 0 ∧ 0 < bc) ∨ (ab ≤ 0 ∧ bc ≤ 0 ∧ ac ≤ 0) := by omega
      rcases hcs with rfl | rfl | rfl
      · by_cases hbc : 0 < bc
        · go_wp2_with fail
          refine (may_c _ _ _ (by have := few_le s0; omega) _).mono ?_
          rintro e w3 ⟨rfl, hb3⟩
          obtain ⟨hc3, hf3⟩ := bcell hb3
          have hz3 : w2.heap.size ≤ w3.heap.size := (by have := hb3.size; (try simp at this); omega)
          have m0 : w.heap.size < w3.heap.size := by omega
          have m1 : w.heap.size + 1 < w3.heap.size := by omega
          have HB3 := Lib.hid (bstep hb3 HB2.out)
          clear hb3
          cases hm0 : V.mayB ⟨x0, n0, (few s0).data.toList⟩ with
          | false =>
            go_wp2_with fail
            refine (awake_c _ (HT.out.grow HB3.out)).mono ?_
            rintro e w9 ⟨rfl, hb9⟩
            go_wp2_with fail
            go_ret
            exact ⟨rfl, bstep hb9 HB3.out⟩
          | true =>
            go_wp2_with fail
            refine (may_c _ _ _ (by have := few_le s1; omega) _).mono ?_
            rintro e w4 ⟨rfl, hb4⟩
            obtain ⟨hc4, hf4⟩ := bcell hb4
            have hz4 : w3.heap.size ≤ w4.heap.size := (by have := hb4.size; (try simp at this); omega)
            have l0 : w.heap.size < w4.heap.size := by omega
            have l1 : w.heap.size + 1 < w4.heap.size := by omega
            have HB4 := Lib.hid (bstep hb4 HB3.out)
            clear hb4
            cases hm1 : V.mayB ⟨x1, n1, (few s1).data.toList⟩ with
            | false =>
              go_wp2_with fail
              refine (awake_c _ (HT.out.grow HB4.out)).mono ?_
              rintro e w9 ⟨rfl, hb9⟩
              go_wp2_with fail
              go_ret
              exact ⟨rfl, bstep hb9 HB4.out⟩
            | true =>
              have hd := HZ.out (of_decide_eq_true hm0) (of_decide_eq_true hm1)
              rw [V.mk.injEq] at hd
              clear HZ hm0 hm1
              by_cases hx : x0 = x1
              · subst hx
                by_cases hn : n0 = n1
                · subst hn
                  have e3 : ((few s0).toList == (few s1).toList) = false := strNe (fun e => by have := hd.2 ⟨rfl, rfl, e⟩; omega)
                  clear hd
                  go_wp2_with fail
                  refine (awake_c _ (HT.out.grow HB4.out)).mono ?_
                  rintro e w9 ⟨rfl, hb9⟩
                  go_wp2_with fail
                  go_ret
                  exact ⟨rfl, bstep hb9 HB4.out⟩
                · have e2 : ((n0 : Int) == n1) = false := by simpa using hn
                  clear hd
                  go_wp2_with fail
                  refine (awake_c _ (HT.out.grow HB4.out)).mono ?_
                  rintro e w9 ⟨rfl, hb9⟩
                  go_wp2_with fail
                  go_ret
                  exact ⟨rfl, bstep hb9 HB4.out⟩
              · have e1 : (x0 == x1) = false := by simpa using hx
                clear hd
                go_wp2_with fail
                refine (awake_c _ (HT.out.grow HB4.out)).mono ?_
                rintro e w9 ⟨rfl, hb9⟩
                go_wp2_with fail
                go_ret
                exact ⟨rfl, bstep hb9 HB4.out⟩
        · have hac : ac ≤ 0 := by omega
          go_wp2_with fail
          refine (may_c _ _ _ (by have := few_le s0; omega) _).mono ?_
          rintro e w3 ⟨rfl, hb3⟩
          obtain ⟨hc3, hf3⟩ := bcell hb3
          have hz3 : w2.heap.size ≤ w3.heap.size := (by have := hb3.size; (try simp at this); omega)
          have m0 : w.heap.size < w3.heap.size := by omega
          have m1 : w.heap.size + 1 < w3.heap.size := by omega
          have HB3 := Lib.hid (bstep hb3 HB2.out)
          clear hb3
          cases hm0 : V.mayB ⟨x0, n0, (few s0).data.toList⟩ with
          | false =>
            go_wp2_with fail
            refine (awake_c _ (HT.out.grow HB3.out)).mono ?_
            rintro e w9 ⟨rfl, hb9⟩
            go_wp2_with fail
            go_ret
            exact ⟨rfl, bstep hb9 HB3.out⟩
          | true =>
            go_wp2_with fail
            refine (may_c _ _ _ (by have := few_le s1; omega) _).mono ?_
            rintro e w4 ⟨rfl, hb4⟩
            obtain ⟨hc4, hf4⟩ := bcell hb4
            have hz4 : w3.heap.size ≤ w4.heap.size := (by have := hb4.size; (try simp at this); omega)
            have l0 : w.heap.size < w4.heap.size := by omega
            have l1 : w.heap.size + 1 < w4.heap.size := by omega
            have HB4 := Lib.hid (bstep hb4 HB3.out)
            clear hb4
            cases hm1 : V.mayB ⟨x1, n1, (few s1).data.toList⟩ with
            | false =>
              go_wp2_with fail
              refine (awake_c _ (HT.out.grow HB4.out)).mono ?_
              rintro e w9 ⟨rfl, hb9⟩
              go_wp2_with fail
              go_ret
              exact ⟨rfl, bstep hb9 HB4.out⟩
            | true =>
              have hd := HZ.out (of_decide_eq_true hm0) (of_decide_eq_true hm1)
              rw [V.mk.injEq] at hd
              clear HZ hm0 hm1
              by_cases hx : x0 = x1
              · subst hx
                by_cases hn : n0 = n1
                · subst hn
                  have e3 : ((few s0).toList == (few s1).toList) = false := strNe (fun e => by have := hd.2 ⟨rfl, rfl, e⟩; omega)
                  clear hd
                  go_wp2_with fail
                  refine (awake_c _ (HT.out.grow HB4.out)).mono ?_
                  rintro e w9 ⟨rfl, hb9⟩
                  go_wp2_with fail
                  go_ret
                  exact ⟨rfl, bstep hb9 HB4.out⟩
                · have e2 : ((n0 : Int) == n1) = false := by simpa using hn
                  clear hd
                  go_wp2_with fail
                  refine (awake_c _ (HT.out.grow HB4.out)).mono ?_
                  rintro e w9 ⟨rfl, hb9⟩
                  go_wp2_with fail
                  go_ret
                  exact ⟨rfl, bstep hb9 HB4.out⟩
              · have e1 : (x0 == x1) = false := by simpa using hx
                clear hd
                go_wp2_with fail
                refine (awake_c _ (HT.out.grow HB4.out)).mono ?_
                rintro e w9 ⟨rfl, hb9⟩
                go_wp2_with fail
                go_ret
                exact ⟨rfl, bstep hb9 HB4.out⟩
      · by_cases hbc : 0 < bc
        · go_wp2_with fail
          refine (may_c _ _ _ (by have := few_le s0; omega) _).mono ?_
          rintro e w3 ⟨rfl, hb3⟩
          obtain ⟨hc3, hf3⟩ := bcell hb3
          have hz3 : w2.heap.size ≤ w3.heap.size := (by have := hb3.size; (try simp at this); omega)
          have m0 : w.heap.size < w3.heap.size := by omega
          have m1 : w.heap.size + 1 < w3.heap.size := by omega
          have HB3 := Lib.hid (bstep hb3 HB2.out)
          clear hb3
          cases hm0 : V.mayB ⟨x0, n0, (few s0).data.toList⟩ with
          | false =>
            go_wp2_with fail
            refine (awake_c _ (HT.out.grow HB3.out)).mono ?_
            rintro e w9 ⟨rfl, hb9⟩
            go_wp2_with fail
            go_ret
            exact ⟨rfl, bstep hb9 HB3.out⟩
          | true =>
            go_wp2_with fail
            refine (may_c _ _ _ (by have := few_le s1; omega) _).mono ?_
            rintro e w4 ⟨rfl, hb4⟩
            obtain ⟨hc4, hf4⟩ := bcell hb4
            have hz4 : w3.heap.size ≤ w4.heap.size := (by have := hb4.size; (try simp at this); omega)
            have l0 : w.heap.size < w4.heap.size := by omega
            have l1 : w.heap.size + 1 < w4.heap.size := by omega
            have HB4 := Lib.hid (bstep hb4 HB3.out)
            clear hb4
            cases hm1 : V.mayB ⟨x1, n1, (few s1).data.toList⟩ with
            | false =>
              go_wp2_with fail
              refine (awake_c _ (HT.out.grow HB4.out)).mono ?_
              rintro e w9 ⟨rfl, hb9⟩
              go_wp2_with fail
              go_ret
              exact ⟨rfl, bstep hb9 HB4.out⟩
            | true =>
              have hd := HZ.out (of_decide_eq_true hm0) (of_decide_eq_true hm1)
              rw [V.mk.injEq] at hd
              clear HZ hm0 hm1
              obtain ⟨hx, hn, e⟩ := hd.1 (by simp)
              subst hx
              subst hn
              have hs : few s0 = few s1 := str_ext e
              clear hd e
              go_wp2_with fail
              refine (awake_c _ (HT.out.grow HB4.out)).mono ?_
              rintro e w9 ⟨rfl, hb9⟩
              go_wp2_with fail
              go_ret
              exact ⟨rfl, bstep hb9 HB4.out⟩
        · have hac : ac ≤ 0 := by omega
          go_wp2_with fail
          refine (may_c _ _ _ (by have := few_le s0; omega) _).mono ?_
          rintro e w3 ⟨rfl, hb3⟩
          obtain ⟨hc3, hf3⟩ := bcell hb3
          have hz3 : w2.heap.size ≤ w3.heap.size := (by have := hb3.size; (try simp at this); omega)
          have m0 : w.heap.size < w3.heap.size := by omega
          have m1 : w.heap.size + 1 < w3.heap.size := by omega
          have HB3 := Lib.hid (bstep hb3 HB2.out)
          clear hb3
          cases hm0 : V.mayB ⟨x0, n0, (few s0).data.toList⟩ with
          | false =>
            go_wp2_with fail
            refine (awake_c _ (HT.out.grow HB3.out)).mono ?_
            rintro e w9 ⟨rfl, hb9⟩
            go_wp2_with fail
            go_ret
            exact ⟨rfl, bstep hb9 HB3.out⟩
          | true =>
            go_wp2_with fail
            refine (may_c _ _ _ (by have := few_le s1; omega) _).mono ?_
            rintro e w4 ⟨rfl, hb4⟩
            obtain ⟨hc4, hf4⟩ := bcell hb4
            have hz4 : w3.heap.size ≤ w4.heap.size := (by have := hb4.size; (try simp at this); omega)
            have l0 : w.heap.size < w4.heap.size := by omega
            have l1 : w.heap.size + 1 < w4.heap.size := by omega
            have HB4 := Lib.hid (bstep hb4 HB3.out)
            clear hb4
            cases hm1 : V.mayB ⟨x1, n1, (few s1).data.toList⟩ with
            | false =>
              go_wp2_with fail
              refine (awake_c _ (HT.out.grow HB4.out)).mono ?_
              rintro e w9 ⟨rfl, hb9⟩
              go_wp2_with fail
              go_ret
              exact ⟨rfl, bstep hb9 HB4.out⟩
            | true =>
              have hd := HZ.out (of_decide_eq_true hm0) (of_decide_eq_true hm1)
              rw [V.mk.injEq] at hd
              clear HZ hm0 hm1
              obtain ⟨hx, hn, e⟩ := hd.1 (by simp)
              subst hx
              subst hn
              have hs : few s0 = few s1 := str_ext e
              clear hd e
              go_wp2_with fail
              refine (awake_c _ (HT.out.grow HB4.out)).mono ?_
              rintro e w9 ⟨rfl, hb9⟩
              go_wp2_with fail
              go_ret
              exact ⟨rfl, bstep hb9 HB4.out⟩
      · go_wp2_with fail
        refine (may_c _ _ _ (by have := few_le s0; omega) _).mono ?_
        rintro e w3 ⟨rfl, hb3⟩
        obtain ⟨hc3, hf3⟩ := bcell hb3
        have hz3 : w2.heap.size ≤ w3.heap.size := (by have := hb3.size; (try simp at this); omega)
        have m0 : w.heap.size < w3.heap.size := by omega
        have m1 : w.heap.size + 1 < w3.heap.size := by omega
        have HB3 := Lib.hid (bstep hb3 HB2.out)
        clear hb3
        cases hm0 : V.mayB ⟨x0, n0, (few s0).data.toList⟩ with
        | false =>
          go_wp2_with fail
          refine (awake_c _ (HT.out.grow HB3.out)).mono ?_
          rintro e w9 ⟨rfl, hb9⟩
          go_wp2_with fail
          go_ret
          exact ⟨rfl, bstep hb9 HB3.out⟩
        | true =>
          go_wp2_with fail
          refine (may_c _ _ _ (by have := few_le s1; omega) _).mono ?_
          rintro e w4 ⟨rfl, hb4⟩
          obtain ⟨hc4, hf4⟩ := bcell hb4
          have hz4 : w3.heap.size ≤ w4.heap.size := (by have := hb4.size; (try simp at this); omega)
          have l0 : w.heap.size < w4.heap.size := by omega
          have l1 : w.heap.size + 1 < w4.heap.size := by omega
          have HB4 := Lib.hid (bstep hb4 HB3.out)
          clear hb4
          cases hm1 : V.mayB ⟨x1, n1, (few s1).data.toList⟩ with
          | false =>
            go_wp2_with fail
            refine (awake_c _ (HT.out.grow HB4.out)).mono ?_
            rintro e w9 ⟨rfl, hb9⟩
            go_wp2_with fail
            go_ret
            exact ⟨rfl, bstep hb9 HB4.out⟩
          | true =>
            have hd := HZ.out (of_decide_eq_true hm0) (of_decide_eq_true hm1)
            rw [V.mk.injEq] at hd
            clear HZ hm0 hm1
            by_cases hx : x0 = x1
            · subst hx
              by_cases hn : n0 = n1
              · subst hn
                have e3 : ((few s0).toList == (few s1).toList) = false := strNe (fun e => by have := hd.2 ⟨rfl, rfl, e⟩; omega)
                clear hd
                go_wp2_with fail
                refine (awake_c _ (HT.out.grow HB4.out)).mono ?_
                rintro e w9 ⟨rfl, hb9⟩
                go_wp2_with fail
                go_ret
                exact ⟨rfl, bstep hb9 HB4.out⟩
              · have e2 : ((n0 : Int) == n1) = false := by simpa using hn
                clear hd
                go_wp2_with fail
                refine (awake_c _ (HT.out.grow HB4.out)).mono ?_
                rintro e w9 ⟨rfl, hb9⟩
                go_wp2_with fail
                go_ret
                exact ⟨rfl, bstep hb9 HB4.out⟩
            · have e1 : (x0 == x1) = false := by simpa using hx
              clear hd
              go_wp2_with fail
              refine (awake_c _ (HT.out.grow HB4.out)).mono ?_
              rintro e w9 ⟨rfl, hb9⟩
              go_wp2_with fail
              go_ret
              exact ⟨rfl, bstep hb9 HB4.out⟩
end Go.Proofs.YtmagghfegikidaaDoor
