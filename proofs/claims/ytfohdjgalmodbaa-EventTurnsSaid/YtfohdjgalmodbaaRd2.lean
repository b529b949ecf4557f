/- The walk of the reader s text. -/
import Derived.Test.YtfohdjgalmodbaaProg
import Derived.WalkKit
import Derived.WalkSpells
import Derived.WalkLawsBesides
import Derived.Lib.Hide
import Derived.Deep.RegionWith
import Derived.Deep.Cut
import Derived.Test.YtfohdjgalmodbaaRd1
set_option linter.unusedVariables false
set_option linter.unusedSimpArgs false
namespace Go.Proofs.Ytfohdjgalmodbaa
open Go.RowKit Tryst
set_option maxHeartbeats 400000
set_option maxRecDepth 20000
def TextR (w : World) (g : Nat) (s : ByteArray) (t : List UInt8) (a e : Nat) (x : Ending) (w' : World) : Prop := x = .returned (.string ⟨t.toArray⟩) ∧ RAt w' g s a e ∧ Only g w w'
theorem rnum_err3 (l : List UInt8) (most a e : Nat) (he : e ≤ 3) : (rnum l most (a, e)).2.2 ≤ 3 := by
  unfold rnum
  split
  · exact he
  · split
    · rcases unp_err (l.drop a) with h | h | h
      · rename_i h1 h2; exact absurd h h2
      · show (unp (l.drop a)).2.2 ≤ 3; rw [h]; decide
      · show (unp (l.drop a)).2.2 ≤ 3; rw [h]; decide
    · split <;> simp
theorem rtext_err3 (l : List UInt8) (most a e : Nat) (he : e ≤ 3) : (rtext l most (a, e)).2.2 ≤ 3 := by
  have h := rnum_err3 l most a e he
  unfold rtext
  split
  · exact h
  · split
    · exact Nat.le_refl 3
    · exact Nat.zero_le 3
theorem cut_str (s : ByteArray) (a n : Nat) (h : a + n ≤ s.size) : s.extract a (a + n) = ⟨((s.data.toList.drop a).take n).toArray⟩ := by
  apply str_ext
  rw [sub_str, mk_str, List.drop_take, Nat.add_sub_cancel_left]
set_option maxHeartbeats 1000000 in
theorem rtextM_c (g : Nat) (s : ByteArray) (hs : s.size ≤ 1000000000) (a e most : Nat) (ha : a ≤ s.size) (he : e ≤ 3) (hm : most ≤ 1000000) (w : World) (h : RAt w g s a e) :
    Calls Try.prog 40 #[.pointer (some ⟨g, 0, none⟩), .int .u64 most] w fun x w' => TextR w g s (rtext s.data.toList most (a, e)).1 (rtext s.data.toList most (a, e)).2.1 (rtext s.data.toList most (a, e)).2.2 x w' := by
  obtain ⟨hn1, hn2⟩ := rnum_le s.data.toList most a e (by rw [len_str]; exact ha)
  rw [len_str] at hn2
  have hnum := number_c g s hs a e most ha he (by omega)
  have hrt : rtext s.data.toList most (a, e) = if (rnum s.data.toList most (a, e)).2.2 ≠ 0 then ([], (rnum s.data.toList most (a, e)).2) else if s.size - (rnum s.data.toList most (a, e)).2.1 < (rnum s.data.toList most (a, e)).1 then ([], ((rnum s.data.toList most (a, e)).2.1, 3)) else ((s.data.toList.drop (rnum s.data.toList most (a, e)).2.1).take (rnum s.data.toList most (a, e)).1, ((rnum s.data.toList most (a, e)).2.1 + (rnum s.data.toList most (a, e)).1, 0)) := by
    unfold rtext; rw [len_str]
  have he3 := rnum_err3 s.data.toList most a e he
  rw [hrt]
  clear hrt
  revert hn1 hn2 hnum he3
  generalize rnum s.data.toList most (a, e) = r
  obtain ⟨n, a1, e1⟩ := r
  simp only
  intro hn1 hn2 hnum he3
  have HN := Lib.hid hnum
  have HR := Lib.hid h
  have y1 : IntKind.i64.wrap (n : Int) = n := IntWalk.i64_in _ (by omega)
  clear hnum h
  by_cases h0 : e1 = 0
  · subst h0
    rw [if_neg (by simp)]
    have y2 : IntKind.i64.wrap ((s.size : Int) - a1) = (s.size : Int) - a1 := IntWalk.i64_in _ (by omega)
    have y3 : IntKind.i64.wrap ((a1 : Int) + n) = (a1 : Int) + n := IntWalk.i64_in _ (by omega)
    by_cases hlt : s.size - a1 < n
    · rw [if_pos hlt]
      have x1 : (s.size : Int) - a1 < n := by omega
      go_enter Try.func40, Try.ntmps40
      go_wp2_with fail
      refine (HN.out w HR.out).mono ?_
      rintro x w1 ⟨rfl, hr1, ho1⟩
      have HR1 := Lib.hid hr1
      have HO1 := Lib.hid ho1
      have hgz := hr1.hz
      obtain ⟨d0, d1, d2, d3, d4, d5⟩ := hr1
      clear ho1
      go_wp2_with fail
      refine Tryst2.wp_region_grows [.is (.pointer (some ⟨g, 0, none⟩)), .is (.pointer (some ⟨g, 0, none⟩)), .is (.pointer (some ⟨g, 2, none⟩)), .is (.int .i64 0), .is (.bool true), .is (.bool true), .is (.int .i64 n), .is (.pointer (some ⟨g, 0, none⟩)), .is (.pointer (some ⟨g, 0, none⟩)), .is (.pointer (some ⟨g, 0, none⟩)), .is (.string s), .is (.int .i64 s.size), .is (.pointer (some ⟨g, 0, none⟩)), .is (.pointer (some ⟨g, 0, none⟩)), .is (.pointer (some ⟨g, 1, none⟩)), .is (.int .i64 a1), .is (.int .i64 ((s.size : Int) - a1)), .is (.bool true), .is (.bool true)] (by kernel_rfl) (by kernel_rfl) ?obl ?fin
      case obl =>
        simp only [Tryst2.AllObl, Tryst2.dstL, Tryst2.Obl, Tryst2.depsOf, Tryst2.binds_data, Tryst2.binds_chain, Tryst2.binds_phase, Tryst2.binds_guard, Tryst2.binds_text, Tryst2.binds_gc, Bool.false_eq_true, if_false, List.filterMap_cons_some, List.filterMap_cons_none, Tryst2.depsR, Tryst2.holdR, Tryst2.tmpsOf, Op.operands, Call.operands, Tryst2.Rsp.pred, Tryst2.wantedV_none, Tryst2.wantedV_some, if_true, List.map_cons, List.map_nil, List.length_map, List.take_succ_cons, List.take_zero, List.length_cons, List.length_nil, List.getElem?_cons_zero, List.getElem?_cons_succ, Option.bind_some, id, List.getD_cons_zero, List.getD_cons_succ, Tryst2.isDst, List.filterMap_cons, List.filterMap_nil, List.toList_toArray]
        repeat' apply And.intro
        any_goals trivial
        all_goals (intro tv w' hg hold hd; (try simp at hold); obtain ⟨hcg, hfg⟩ := Tryst2.Grow.cells hg; have hsg := Tryst2.Grow.le hg)
        all_goals first | (go_simp; done) | (go_simp; rw [if_neg (by omega)]; exact ⟨.refl _, rfl⟩) | (obtain ⟨⟨g, hvg, hgg, hcell⟩, _⟩ := hd; have hcell0 := hcell 0 (by decide); simp at hcell0; go_simp; done) 
      case fin =>
        intro tv w' hg hR
        simp only [Tryst2.allR, Tryst2.dstL, Tryst2.Rsp.pred, List.map_cons, List.map_nil, List.take_succ_cons, List.take_zero, List.length_cons, List.length_nil, List.tail_cons, List.toList_toArray] at hR
        obtain ⟨hcg, hfg⟩ := Tryst2.Grow.cells hg
        have hsg := Tryst2.Grow.le hg
        simp only [Tryst2.putAll, Tryst2.dstL, List.map_cons, List.map_nil, List.take_succ_cons, List.take_zero, List.length_cons, List.length_nil, List.toList_toArray, List.drop_succ_cons, List.drop_zero, Act.put, List.setIfInBounds_toArray, List.set_cons_zero, List.set_cons_succ, hR]
        have hbw := Tryst2.Grow.below hg (.refl w1.heap.size w1)
        have HR2 := Lib.hid (HR1.out.grow hbw)
        have HO2 := Lib.hid (HO1.out.trans (Only.ofBelow hgz hbw))
        clear hg hR hcg hfg hsg hbw d0 d1 d2 d3 d4 d5
        obtain ⟨d0, d1, d2, d3, d4, d5⟩ := HR2.out
        go_wp2_with fail
        go_ret
        exact ⟨rfl, HR2.out.set2, HO2.out.set 2 _⟩
    · rw [if_neg hlt]
      have x1 : ¬ (s.size : Int) - a1 < n := by omega
      have hle : a1 + n ≤ s.size := by omega
      have y4 : IntKind.i64.wrap (a1 : Int) = a1 := IntWalk.i64_in _ (by omega)
      have hcut := Lib.hid (cut_str s a1 n hle)
      go_enter Try.func40, Try.ntmps40
      go_wp2_with fail
      refine (HN.out w HR.out).mono ?_
      rintro x w1 ⟨rfl, hr1, ho1⟩
      have HR1 := Lib.hid hr1
      have HO1 := Lib.hid ho1
      have hgz := hr1.hz
      obtain ⟨d0, d1, d2, d3, d4, d5⟩ := hr1
      clear ho1
      go_wp2_with fail
      refine Tryst2.wp_region_grows [.is (.pointer (some ⟨g, 0, none⟩)), .is (.pointer (some ⟨g, 0, none⟩)), .is (.pointer (some ⟨g, 2, none⟩)), .is (.int .i64 0), .is (.bool true), .is (.bool true), .is (.int .i64 n), .is (.pointer (some ⟨g, 0, none⟩)), .is (.pointer (some ⟨g, 0, none⟩)), .is (.pointer (some ⟨g, 0, none⟩)), .is (.string s), .is (.int .i64 s.size), .is (.pointer (some ⟨g, 0, none⟩)), .is (.pointer (some ⟨g, 0, none⟩)), .is (.pointer (some ⟨g, 1, none⟩)), .is (.int .i64 a1), .is (.int .i64 ((s.size : Int) - a1)), .is (.bool false), .is (.bool false)] (by kernel_rfl) (by kernel_rfl) ?obl ?fin
      case obl =>
        simp only [Tryst2.AllObl, Tryst2.dstL, Tryst2.Obl, Tryst2.depsOf, Tryst2.binds_data, Tryst2.binds_chain, Tryst2.binds_phase, Tryst2.binds_guard, Tryst2.binds_text, Tryst2.binds_gc, Bool.false_eq_true, if_false, List.filterMap_cons_some, List.filterMap_cons_none, Tryst2.depsR, Tryst2.holdR, Tryst2.tmpsOf, Op.operands, Call.operands, Tryst2.Rsp.pred, Tryst2.wantedV_none, Tryst2.wantedV_some, if_true, List.map_cons, List.map_nil, List.length_map, List.take_succ_cons, List.take_zero, List.length_cons, List.length_nil, List.getElem?_cons_zero, List.getElem?_cons_succ, Option.bind_some, id, List.getD_cons_zero, List.getD_cons_succ, Tryst2.isDst, List.filterMap_cons, List.filterMap_nil, List.toList_toArray]
        repeat' apply And.intro
        any_goals trivial
        all_goals (intro tv w' hg hold hd; (try simp at hold); obtain ⟨hcg, hfg⟩ := Tryst2.Grow.cells hg; have hsg := Tryst2.Grow.le hg)
        all_goals first | (go_simp; done) | (go_simp; rw [if_neg (by omega)]; exact ⟨.refl _, rfl⟩) | (obtain ⟨⟨g, hvg, hgg, hcell⟩, _⟩ := hd; have hcell0 := hcell 0 (by decide); simp at hcell0; go_simp; done) 
      case fin =>
        intro tv w' hg hR
        simp only [Tryst2.allR, Tryst2.dstL, Tryst2.Rsp.pred, List.map_cons, List.map_nil, List.take_succ_cons, List.take_zero, List.length_cons, List.length_nil, List.tail_cons, List.toList_toArray] at hR
        obtain ⟨hcg, hfg⟩ := Tryst2.Grow.cells hg
        have hsg := Tryst2.Grow.le hg
        simp only [Tryst2.putAll, Tryst2.dstL, List.map_cons, List.map_nil, List.take_succ_cons, List.take_zero, List.length_cons, List.length_nil, List.toList_toArray, List.drop_succ_cons, List.drop_zero, Act.put, List.setIfInBounds_toArray, List.set_cons_zero, List.set_cons_succ, hR]
        have hbw := Tryst2.Grow.below hg (.refl w1.heap.size w1)
        have HR2 := Lib.hid (HR1.out.grow hbw)
        have HO2 := Lib.hid (HO1.out.trans (Only.ofBelow hgz hbw))
        clear hg hR hcg hfg hsg hbw d0 d1 d2 d3 d4 d5 HR1 HO1
        obtain ⟨d0, d1, d2, d3, d4, d5⟩ := HR2.out
        go_upto_region 7 with fail
        have HR3 : Hid (RAt (w'.setCell ⟨g, 1, none⟩ (.int .i64 ((a1 : Int) + n))) g s (a1 + n) 0) := by
          have := HR2.out.set1 (a' := a1 + n)
          show RAt _ _ _ _ _
          rwa [show ((a1 + n : Nat) : Int) = (a1 : Int) + n by omega] at this
        have HO3 := Lib.hid (HO2.out.set 1 (.int .i64 ((a1 : Int) + n)))
        clear HR2 HO2 d0 d1 d2 d3 d4 d5
        revert HR3 HO3
        generalize w'.setCell ⟨g, 1, none⟩ (.int .i64 ((a1 : Int) + n)) = X
        intro HR3 HO3
        have hgz2 := HR3.out.hz
        obtain ⟨d0, d1, d2, d3, d4, d5⟩ := HR3.out
        rw [show ((a1 + n : Nat) : Int) = (a1 : Int) + n by omega] at d1
        have x2 : (a1 : Int) + n ≤ s.size := by omega
        have x3 : (0 : Int) ≤ a1 := by omega
        have x4 : (a1 : Int) ≤ (a1 : Int) + n := by omega
        have x5 : ((a1 : Int) + n).toNat = a1 + n := by omega
        have x6 : (0 : Int) ≤ (a1 : Int) + n := by omega
        have x7 : IntKind.i64.wrap ((a1 : Int) + n - n) = a1 := by rw [Int.add_sub_cancel]; exact y4
        refine Tryst2.wp_region_grows [.is (.pointer (some ⟨g, 0, none⟩)), .is (.pointer (some ⟨g, 0, none⟩)), .is (.pointer (some ⟨g, 0, none⟩)), .is (.string s), .is (.pointer (some ⟨g, 0, none⟩)), .is (.pointer (some ⟨g, 0, none⟩)), .is (.pointer (some ⟨g, 1, none⟩)), .is (.int .i64 ((a1 : Int) + n)), .is (.int .i64 n), .is (.int .i64 a1), .is (.pointer (some ⟨g, 0, none⟩)), .is (.pointer (some ⟨g, 0, none⟩)), .is (.pointer (some ⟨g, 1, none⟩)), .is (.int .i64 ((a1 : Int) + n)), .is (.string (s.extract a1 (a1 + n))), .is (.string (s.extract a1 (a1 + n)))] (by kernel_rfl) (by kernel_rfl) ?obl ?fin
        case obl =>
          simp only [Tryst2.AllObl, Tryst2.dstL, Tryst2.Obl, Tryst2.depsOf, Tryst2.binds_data, Tryst2.binds_chain, Tryst2.binds_phase, Tryst2.binds_guard, Tryst2.binds_text, Tryst2.binds_gc, Bool.false_eq_true, if_false, List.filterMap_cons_some, List.filterMap_cons_none, Tryst2.depsR, Tryst2.holdR, Tryst2.tmpsOf, Op.operands, Call.operands, Tryst2.Rsp.pred, Tryst2.wantedV_none, if_true, List.map_cons, List.map_nil, List.length_map, List.take_succ_cons, List.take_zero, List.length_cons, List.length_nil, List.getElem?_cons_zero, List.getElem?_cons_succ, Option.bind_some, id, List.getD_cons_zero, List.getD_cons_succ, Tryst2.isDst, List.filterMap_cons, List.filterMap_nil, List.toList_toArray]
          repeat' apply And.intro
          any_goals trivial
          all_goals (intro tv w' hg hold hd; (try simp at hold); obtain ⟨hcg, hfg⟩ := Tryst2.Grow.cells hg; have hsg := Tryst2.Grow.le hg)
          all_goals first | (go_simp; done) | (go_simp; rw [if_neg (by omega)]; exact ⟨.refl _, rfl⟩) | (obtain ⟨⟨g, hvg, hgg, hcell⟩, _⟩ := hd; have hcell0 := hcell 0 (by decide); simp at hcell0; go_simp; done) 
        case fin =>
          intro tv w' hg hR
          simp only [Tryst2.allR, Tryst2.dstL, Tryst2.Rsp.pred, List.map_cons, List.map_nil, List.take_succ_cons, List.take_zero, List.length_cons, List.length_nil, List.tail_cons, List.toList_toArray] at hR
          obtain ⟨hcg, hfg⟩ := Tryst2.Grow.cells hg
          have hsg := Tryst2.Grow.le hg
          simp only [Tryst2.putAll, Tryst2.dstL, List.map_cons, List.map_nil, List.take_succ_cons, List.take_zero, List.length_cons, List.length_nil, List.toList_toArray, List.drop_succ_cons, List.drop_zero, Act.put, List.setIfInBounds_toArray, List.set_cons_zero, List.set_cons_succ, hR]
          have hbw := Tryst2.Grow.below hg (.refl X.heap.size X)
          have HR4 := Lib.hid (HR3.out.grow hbw)
          have HO4 := Lib.hid (HO3.out.trans (Only.ofBelow hgz2 hbw))
          clear hg hR hcg hfg hsg hbw d0 d1 d2 d3 d4 d5
          go_wp2_with fail
          go_ret
          exact ⟨ret_eq (by show Value.string (s.extract a1 (a1 + n)) = _; rw [hcut.out]), HR4.out, HO4.out⟩
  · rw [if_pos h0]
    have e1' : ((e1 : Int) != 0) = true := by simp; omega
    have e2' : ((e1 : Int) == 0) = false := by simp; omega
    go_enter Try.func40, Try.ntmps40
    go_wp2_with fail
    refine (HN.out w HR.out).mono ?_
    rintro x w1 ⟨rfl, hr1, ho1⟩
    have HR1 := Lib.hid hr1
    have HO1 := Lib.hid ho1
    have hgz := hr1.hz
    obtain ⟨d0, d1, d2, d3, d4, d5⟩ := hr1
    clear ho1
    go_wp2_with fail
    refine Tryst2.wp_region_grows [.is (.pointer (some ⟨g, 0, none⟩)), .is (.pointer (some ⟨g, 0, none⟩)), .is (.pointer (some ⟨g, 2, none⟩)), .is (.int .i64 e1), .is (.bool false), .is (.bool false), .is undef, .is undef, .is undef, .is undef, .is undef, .is undef, .is undef, .is undef, .is undef, .is undef, .is undef, .is undef, .is (.bool false)] (by kernel_rfl) (by kernel_rfl) ?obl ?fin
    case obl =>
      simp only [Tryst2.AllObl, Tryst2.dstL, Tryst2.Obl, Tryst2.depsOf, Tryst2.binds_data, Tryst2.binds_chain, Tryst2.binds_phase, Tryst2.binds_guard, Tryst2.binds_text, Tryst2.binds_gc, Bool.false_eq_true, if_false, List.filterMap_cons_some, List.filterMap_cons_none, Tryst2.depsR, Tryst2.holdR, Tryst2.tmpsOf, Op.operands, Call.operands, Tryst2.Rsp.pred, Tryst2.wantedV_none, Tryst2.wantedV_some, if_true, List.map_cons, List.map_nil, List.length_map, List.take_succ_cons, List.take_zero, List.length_cons, List.length_nil, List.getElem?_cons_zero, List.getElem?_cons_succ, Option.bind_some, id, List.getD_cons_zero, List.getD_cons_succ, Tryst2.isDst, List.filterMap_cons, List.filterMap_nil, List.toList_toArray]
      repeat' apply And.intro
      any_goals trivial
      all_goals (intro tv w' hg hold hd; (try simp at hold); obtain ⟨hcg, hfg⟩ := Tryst2.Grow.cells hg; have hsg := Tryst2.Grow.le hg)
      all_goals first | (go_simp; done) | (go_simp; rw [if_neg (by omega)]; exact ⟨.refl _, rfl⟩) | (obtain ⟨⟨g, hvg, hgg, hcell⟩, _⟩ := hd; have hcell0 := hcell 0 (by decide); simp at hcell0; go_simp; done) 
    case fin =>
      intro tv w' hg hR
      simp only [Tryst2.allR, Tryst2.dstL, Tryst2.Rsp.pred, List.map_cons, List.map_nil, List.take_succ_cons, List.take_zero, List.length_cons, List.length_nil, List.tail_cons, List.toList_toArray] at hR
      obtain ⟨hcg, hfg⟩ := Tryst2.Grow.cells hg
      have hsg := Tryst2.Grow.le hg
      simp only [Tryst2.putAll, Tryst2.dstL, List.map_cons, List.map_nil, List.take_succ_cons, List.take_zero, List.length_cons, List.length_nil, List.toList_toArray, List.drop_succ_cons, List.drop_zero, Act.put, List.setIfInBounds_toArray, List.set_cons_zero, List.set_cons_succ, hR]
      have hbw := Tryst2.Grow.below hg (.refl w1.heap.size w1)
      have HR2 := Lib.hid (HR1.out.grow hbw)
      have HO2 := Lib.hid (HO1.out.trans (Only.ofBelow hgz hbw))
      clear hg hR hcg hfg hsg hbw d0 d1 d2 d3 d4 d5
      obtain ⟨d0, d1, d2, d3, d4, d5⟩ := HR2.out
      go_wp2_with fail
      go_ret
      exact ⟨rfl, HR2.out, HO2.out⟩
end Go.Proofs.Ytfohdjgalmodbaa
