/- The walk of ValApart: two values laid and written; the octets and the written forms part just where the values do. -/
import Derived.Test.YtmagghfegikidaaDoorProg
import Derived.WalkKit
import Derived.WalkSpells
import Derived.WalkLawsBesides
import Derived.Lib.Hide
import Derived.Deep.RegionWith
import Derived.Deep.Cut
import Derived.Test.YtmagghfegikidaaDoorBehind
import Derived.Test.YtmagghfegikidaaDoorDraw2
import Derived.Test.YtmagghfegikidaaDoorBoxes2
set_option linter.unusedVariables false
set_option linter.unusedSimpArgs false
namespace Go.Proofs.YtmagghfegikidaaDoor
open Go.RowKit Tryst
set_option maxHeartbeats 400000
set_option maxRecDepth 20000
theorem wp_gen2 {C : Code} {P : Program} {Q : Exit → Act → World → Prop} {a : Act} {W : World} (F : World → Prop) (h : F W) (k : ∀ w1, F w1 → C.wp P Q a w1) : C.wp P Q a W := k W h
theorem apart_facts {x0 x1 : Bool} {n0 n1 : Int} {s0 s1 : ByteArray} (hl0 : -9223372036854775808 ≤ n0) (hh0 : n0 ≤ 9223372036854775807) (hl1 : -9223372036854775808 ≤ n1) (hh1 : n1 ≤ 9223372036854775807)
    (ha : V.May ⟨x0, n0, s0.data.toList⟩) (hb : V.May ⟨x1, n1, s1.data.toList⟩) (hne : (⟨x0, n0, s0.data.toList⟩ : V) ≠ ⟨x1, n1, s1.data.toList⟩) :
    ∃ TA TB WA WB : ByteArray, ⟨(V.lay ⟨x0, n0, s0.data.toList⟩).toArray⟩ = TA ∧ ⟨(V.lay ⟨x1, n1, s1.data.toList⟩).toArray⟩ = TB ∧ ⟨(V.write ⟨x0, n0, s0.data.toList⟩).toArray⟩ = WA ∧ ⟨(V.write ⟨x1, n1, s1.data.toList⟩).toArray⟩ = WB ∧
      TA.size ≤ 71 ∧ TB.size ≤ 71 ∧ (TA.toList == TB.toList) = false ∧ (WA.toList == WB.toList) = false ∧ (TB.size < TA.size ∨ (TA.size ≤ TB.size ∧ ((TB.extract 0 TA.size).toList == TA.toList) = false)) := by
  have fa : V.Fits ⟨x0, n0, s0.data.toList⟩ := ⟨hl0, hh0⟩
  have fb : V.Fits ⟨x1, n1, s1.data.toList⟩ := ⟨hl1, hh1⟩
  have sz : ∀ l : List UInt8, (ByteArray.mk l.toArray).size = l.length := fun l => by simp [ByteArray.size]
  refine ⟨_, _, _, _, rfl, rfl, rfl, rfl, ?_, ?_, ?_, ?_, ?_⟩
  · rw [sz]; exact lay_le _ ha
  · rw [sz]; exact lay_le _ hb
  · refine strNe fun e => hne ?_
    rw [mk_str, mk_str] at e
    exact (lay_inj ha hb fa fb).1 e
  · refine strNe fun e => hne ?_
    rw [mk_str, mk_str] at e
    exact (write_inj ha hb fa fb).1 e
  · rw [sz, sz]
    rcases Nat.lt_or_ge (V.lay ⟨x1, n1, s1.data.toList⟩).length (V.lay ⟨x0, n0, s0.data.toList⟩).length with h | h
    · exact .inl h
    · refine .inr ⟨h, strNe fun e => hne ?_⟩
      rw [sub_str] at e
      have e2 : (V.lay ⟨x1, n1, s1.data.toList⟩).take (V.lay ⟨x0, n0, s0.data.toList⟩).length = V.lay ⟨x0, n0, s0.data.toList⟩ := by simpa using e
      refine lay_prefix ha hb fa fb ((V.lay ⟨x1, n1, s1.data.toList⟩).drop (V.lay ⟨x0, n0, s0.data.toList⟩).length) ?_
      have e3 := (List.take_append_drop (V.lay ⟨x0, n0, s0.data.toList⟩).length (V.lay ⟨x1, n1, s1.data.toList⟩)).symm
      rw [e2] at e3
      exact e3
theorem lay_bad {x : Bool} {n : Int} {s : ByteArray} (hs : s.size ≤ 1000000000) (hl : -9223372036854775808 ≤ n) (hh : n ≤ 9223372036854775807) :
    ∃ (T : ByteArray) (k : Int), ∀ w, Calls Tryd.prog 14 #[.agg #[.bool x, .int .i64 n, .string s]] w fun e w' => e = .returned (.tuple #[.string T, .int .i64 k]) ∧ Below w.heap.size w w' := by
  by_cases h : V.May ⟨x, n, s.data.toList⟩
  · exact ⟨_, _, fun w => lay_yes hs hl hh h w⟩
  · exact ⟨_, _, fun w => lay_no hs h w⟩
set_option maxHeartbeats 2000000 in
theorem valApart_c (x0 : Bool) (n0 : Int) (s0 : ByteArray) (hs0 : s0.size ≤ 9223372036854775807) (hl0 : -9223372036854775808 ≤ n0) (hh0 : n0 ≤ 9223372036854775807)
    (x1 : Bool) (n1 : Int) (s1 : ByteArray) (hs1 : s1.size ≤ 9223372036854775807) (hl1 : -9223372036854775808 ≤ n1) (hh1 : n1 ≤ 9223372036854775807) (w : World) (hT : Tab w) :
    Calls Tryd.prog 4 #[.agg #[.bool x0, .int .i64 n0, .string s0], .agg #[.bool x1, .int .i64 n1, .string s1]] w fun e w' => e = .returned (.bool true) ∧ Below w.heap.size w w' := by
  have HT := Lib.hid hT
  clear hT
  have hf0 := few_le s0
  have hf1 := few_le s1
  go_enter Tryd.func4, Tryd.ntmps4
  go_wp2_with fail
  refine Tryst2.wp_region_grows [.is (.agg #[.bool x0, .int .i64 n0, .string s0]), .is (.agg #[.bool x0, .int .i64 n0, .string (few s0)]), .is (.agg #[.bool x1, .int .i64 n1, .string s1]), .is (.agg #[.bool x1, .int .i64 n1, .string (few s1)])] (by kernel_rfl) (by kernel_rfl) ?obl ?fin
  case obl =>
    simp only [Tryst2.AllObl, Tryst2.dstL, Tryst2.Obl, Tryst2.depsOf, Tryst2.binds_data, Tryst2.binds_chain, Tryst2.binds_phase, Tryst2.binds_guard, Tryst2.binds_text, Bool.false_eq_true, if_false, List.filterMap_cons_some, List.filterMap_cons_none, Tryst2.depsR, Tryst2.holdR, Tryst2.tmpsOf, Op.operands, Call.operands, Tryst2.Rsp.pred, Tryst2.wantedV_none, if_true, List.map_cons, List.map_nil, List.take_succ_cons, List.take_zero, List.length_cons, List.length_nil, List.getElem?_cons_zero, List.getElem?_cons_succ, Option.bind_some, id, List.getD_cons_zero, List.getD_cons_succ, Tryst2.isDst, List.filterMap_cons, List.filterMap_nil, List.toList_toArray]
    repeat' apply And.intro
    any_goals trivial
    all_goals (intro tv w' hg hold hd; (try simp at hold); obtain ⟨hcg, hfg⟩ := Tryst2.Grow.cells hg; have hsg := Tryst2.Grow.le hg)
    all_goals first | (go_simp; done) | (go_simp; rw [if_neg (by omega)]; exact ⟨.refl _, rfl⟩) | (obtain ⟨⟨g, hvg, hgg, hcell⟩, _⟩ := hd; have hcell0 := hcell 0 (by decide); simp at hcell0; go_simp; done) | (go_simp; go_at_call 13; refine (fewAll_c _ _ _ (by assumption) _).mono ?_; rintro e w2 ⟨rfl, hb2⟩; exact ⟨hb2, rfl⟩)
  case fin =>
    intro tv w' hg hR
    simp only [Tryst2.allR, Tryst2.dstL, Tryst2.Rsp.pred, List.map_cons, List.map_nil, List.take_succ_cons, List.take_zero, List.length_cons, List.length_nil, List.tail_cons, List.toList_toArray] at hR
    obtain ⟨hcg, hfg⟩ := Tryst2.Grow.cells hg
    have hsg := Tryst2.Grow.le hg
    simp only [Tryst2.putAll, Tryst2.dstL, List.map_cons, List.map_nil, List.take_succ_cons, List.take_zero, List.length_cons, List.length_nil, List.toList_toArray, List.drop_succ_cons, List.drop_zero, Act.put, List.setIfInBounds_toArray, List.set_cons_zero, List.set_cons_succ, hR]
    go_upto_region 2 with fail
    have hz1 : w.heap.size + 2 ≤ w'.heap.size := (by (try simp at hsg); omega)
    have T1 := (Two.new w 23 (x0 := x0) (n0 := n0) (s0 := s0) (x1 := x1) (n1 := n1) (s1 := s1)).grow (by simp) hcg
    refine wp_gen2 (fun v => Two v w.heap.size x0 n0 (few s0) x1 n1 (few s1) ∧ w.heap.size + 2 ≤ v.heap.size ∧ Below w.heap.size w v) ?_ ?_
    · refine ⟨T1.set, by simpa using hz1, ?_⟩
      (repeat (first | with_reducible exact Below.refl _ _ | with_reducible assumption | with_reducible refine bdrew ?_ | with_reducible refine balloc _ ?_ | with_reducible refine bset _ (by simp <;> omega) ?_ | with_reducible refine bstep (by assumption) ?_ | with_reducible refine Grow.below (by assumption) ?_ | with_reducible refine Tryst2.Grow.below (by assumption) ?_))
    clear T1 hz1 hcg hfg hsg hR hg hs0 hs1
    rintro w1 ⟨⟨a0, a1, a2, b0, b1, b2⟩, hz1, hB⟩
    have HB := Lib.hid hB
    clear hB
    have k0 : w.heap.size < w1.heap.size := by omega
    have k1 : w.heap.size + 1 < w1.heap.size := by omega
    clear hz1
    by_cases ha : V.May ⟨x0, n0, (few s0).data.toList⟩
    · by_cases hb : V.May ⟨x1, n1, (few s1).data.toList⟩
      · by_cases he : (⟨x0, n0, (few s0).data.toList⟩ : V) = ⟨x1, n1, (few s1).data.toList⟩
        · rw [V.mk.injEq] at he
          obtain ⟨rfl, rfl, hs⟩ := he
          have hs2 : few s0 = few s1 := str_ext hs
          rw [← hs2] at b2 hf1 hb ⊢
          clear hs hs2 hb
          obtain ⟨TA, hTA⟩ : ∃ T : ByteArray, ⟨(V.lay ⟨x0, n0, (few s0).data.toList⟩).toArray⟩ = T := ⟨_, rfl⟩
          obtain ⟨WA, hWA⟩ : ∃ T : ByteArray, ⟨(V.write ⟨x0, n0, (few s0).data.toList⟩).toArray⟩ = T := ⟨_, rfl⟩
          have hL := lay_yes (by omega : (few s0).size ≤ 1000000000) hl0 hh0 ha
          have hW := fun w hT => write_yes (by omega : (few s0).size ≤ 1000000) hl0 hh0 ha w hT
          rw [hTA] at hL
          rw [hWA] at hW
          have HL := Lib.hid hL
          have HW := Lib.hid hW
          clear hL hW hTA hWA ha
          go_wp2_with fail
          refine (HL.out _).mono ?_
          rintro e w2 ⟨rfl, hb2⟩
          obtain ⟨hc2, hf2⟩ := bcell hb2
          have hz2 : w1.heap.size ≤ w2.heap.size := hb2.size
          have i1 : w.heap.size + 1 < w2.heap.size := by omega
          have j1 : w.heap.size < w2.heap.size := by omega
          have HB2 := Lib.hid (bstep hb2 HB.out)
          clear hb2
          go_wp2_with fail
          refine (HL.out _).mono ?_
          rintro e w3 ⟨rfl, hb3⟩
          obtain ⟨hc3, hf3⟩ := bcell hb3
          have hz3 : w2.heap.size ≤ w3.heap.size := hb3.size
          have i2 : w.heap.size + 1 < w3.heap.size := by omega
          have j2 : w.heap.size < w3.heap.size := by omega
          have HB3 := Lib.hid (bstep hb3 HB2.out)
          clear hb3
          go_wp2_with fail
          refine (HW.out _ (HT.out.grow HB3.out)).mono ?_
          rintro e w4 ⟨rfl, hb4⟩
          obtain ⟨hc4, hf4⟩ := bcell hb4
          have hz4 : w3.heap.size ≤ w4.heap.size := hb4.size
          have i3 : w.heap.size + 1 < w4.heap.size := by omega
          have j3 : w.heap.size < w4.heap.size := by omega
          have HB4 := Lib.hid (bstep hb4 HB3.out)
          clear hb4
          go_wp2_with fail
          refine (HW.out _ (HT.out.grow HB4.out)).mono ?_
          rintro e w5 ⟨rfl, hb5⟩
          obtain ⟨hc5, hf5⟩ := bcell hb5
          have hz5 : w4.heap.size ≤ w5.heap.size := hb5.size
          have i4 : w.heap.size + 1 < w5.heap.size := by omega
          have j4 : w.heap.size < w5.heap.size := by omega
          have HB5 := Lib.hid (bstep hb5 HB4.out)
          clear hb5
          go_wp2_with fail
          refine (awake_c _ (HT.out.grow HB5.out)).mono ?_
          rintro e w9 ⟨rfl, hb9⟩
          go_wp2_with fail
          go_ret
          exact ⟨rfl, bstep hb9 HB5.out⟩
        · obtain ⟨TA, TB, WA, WB, hTA, hTB, hWA, hWB, f1, f2, f3, f4, f5⟩ := apart_facts hl0 hh0 hl1 hh1 ha hb he
          have hLA := lay_yes (by omega : (few s0).size ≤ 1000000000) hl0 hh0 ha
          have hWA2 := fun w hT => write_yes (by omega : (few s0).size ≤ 1000000) hl0 hh0 ha w hT
          have hLB := lay_yes (by omega : (few s1).size ≤ 1000000000) hl1 hh1 hb
          have hWB2 := fun w hT => write_yes (by omega : (few s1).size ≤ 1000000) hl1 hh1 hb w hT
          rw [hTA] at hLA
          rw [hWA] at hWA2
          rw [hTB] at hLB
          rw [hWB] at hWB2
          have HLA := Lib.hid hLA
          have HWA := Lib.hid hWA2
          have HLB := Lib.hid hLB
          have HWB := Lib.hid hWB2
          have HE := Lib.hid he
          clear hLA hWA2 hLB hWB2 hTA hTB hWA hWB ha hb he
          have hv : (x0 == x1) = false ∨ (x0 = x1 ∧ (n0 == n1) = false) ∨ (x0 = x1 ∧ n0 = n1 ∧ ((few s0).toList == (few s1).toList) = false) := by
            have he := HE.out
            rw [V.mk.injEq] at he
            by_cases h1 : x0 = x1
            · by_cases h2 : n0 = n1
              · exact .inr (.inr ⟨h1, h2, strNe fun e => he ⟨h1, h2, e⟩⟩)
              · exact .inr (.inl ⟨h1, by simpa using h2⟩)
            · exact .inl (by simpa using h1)
          clear HE
          rcases hv with v1 | ⟨rfl, v2⟩ | ⟨rfl, rfl, v3⟩
          all_goals
            rcases f5 with f5 | ⟨f5, f6⟩
            all_goals
              go_wp2_with fail
              refine (HLA.out _).mono ?_
              rintro e w2 ⟨rfl, hb2⟩
              obtain ⟨hc2, hf2⟩ := bcell hb2
              have hz2 : w1.heap.size ≤ w2.heap.size := hb2.size
              have i1 : w.heap.size + 1 < w2.heap.size := by omega
              have j1 : w.heap.size < w2.heap.size := by omega
              have HB2 := Lib.hid (bstep hb2 HB.out)
              clear hb2
              go_wp2_with fail
              refine (HLB.out _).mono ?_
              rintro e w3 ⟨rfl, hb3⟩
              obtain ⟨hc3, hf3⟩ := bcell hb3
              have hz3 : w2.heap.size ≤ w3.heap.size := hb3.size
              have i2 : w.heap.size + 1 < w3.heap.size := by omega
              have j2 : w.heap.size < w3.heap.size := by omega
              have HB3 := Lib.hid (bstep hb3 HB2.out)
              clear hb3
              go_wp2_with fail
              refine (HWA.out _ (HT.out.grow HB3.out)).mono ?_
              rintro e w4 ⟨rfl, hb4⟩
              obtain ⟨hc4, hf4⟩ := bcell hb4
              have hz4 : w3.heap.size ≤ w4.heap.size := hb4.size
              have i3 : w.heap.size + 1 < w4.heap.size := by omega
              have j3 : w.heap.size < w4.heap.size := by omega
              have HB4 := Lib.hid (bstep hb4 HB3.out)
              clear hb4
              go_wp2_with fail
              refine (HWB.out _ (HT.out.grow HB4.out)).mono ?_
              rintro e w5 ⟨rfl, hb5⟩
              obtain ⟨hc5, hf5⟩ := bcell hb5
              have hz5 : w4.heap.size ≤ w5.heap.size := hb5.size
              have i4 : w.heap.size + 1 < w5.heap.size := by omega
              have j4 : w.heap.size < w5.heap.size := by omega
              have HB5 := Lib.hid (bstep hb5 HB4.out)
              clear hb5
              go_wp2_with fail
              refine (awake_c _ (HT.out.grow HB5.out)).mono ?_
              rintro e w9 ⟨rfl, hb9⟩
              go_wp2_with fail
              go_ret
              exact ⟨rfl, bstep hb9 HB5.out⟩
      · have HL := Lib.hid (lay_yes (by omega : (few s0).size ≤ 1000000000) hl0 hh0 ha)
        have HN := Lib.hid (lay_no (by omega : (few s1).size ≤ 1000000000) hb)
        clear ha hb
        go_wp2_with fail
        refine (HL.out _).mono ?_
        rintro e w2 ⟨rfl, hb2⟩
        obtain ⟨hc2, hf2⟩ := bcell hb2
        have hz2 : w1.heap.size ≤ w2.heap.size := hb2.size
        have i1 : w.heap.size + 1 < w2.heap.size := by omega
        have HB2 := Lib.hid (bstep hb2 HB.out)
        clear hb2
        go_wp2_with fail
        refine (HN.out _).mono ?_
        rintro e w3 ⟨rfl, hb3⟩
        have HB3 := Lib.hid (bstep hb3 HB2.out)
        clear hb3
        go_wp2_with fail
        refine (awake_c _ (HT.out.grow HB3.out)).mono ?_
        rintro e w9 ⟨rfl, hb9⟩
        go_wp2_with fail
        go_ret
        exact ⟨rfl, bstep hb9 HB3.out⟩
    · have HN := Lib.hid (lay_no (by omega : (few s0).size ≤ 1000000000) ha)
      obtain ⟨T, k, hL⟩ := lay_bad (x := x1) (n := n1) (by omega : (few s1).size ≤ 1000000000) hl1 hh1
      have HL := Lib.hid hL
      clear ha hL
      go_wp2_with fail
      refine (HN.out _).mono ?_
      rintro e w2 ⟨rfl, hb2⟩
      obtain ⟨hc2, hf2⟩ := bcell hb2
      have hz2 : w1.heap.size ≤ w2.heap.size := hb2.size
      have i1 : w.heap.size + 1 < w2.heap.size := by omega
      have HB2 := Lib.hid (bstep hb2 HB.out)
      clear hb2
      go_wp2_with fail
      refine (HL.out _).mono ?_
      rintro e w3 ⟨rfl, hb3⟩
      have HB3 := Lib.hid (bstep hb3 HB2.out)
      clear hb3
      go_wp2_with fail
      refine (awake_c _ (HT.out.grow HB3.out)).mono ?_
      rintro e w9 ⟨rfl, hb9⟩
      go_wp2_with fail
      go_ret
      exact ⟨rfl, bstep hb9 HB3.out⟩
end Go.Proofs.YtmagghfegikidaaDoor
