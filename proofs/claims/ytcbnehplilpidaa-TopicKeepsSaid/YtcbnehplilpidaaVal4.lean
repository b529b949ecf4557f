/- The walks that lay a value. -/
import Derived.Test.YtcbnehplilpidaaProg
import Derived.WalkKit
import Derived.WalkSpells
import Derived.WalkLawsBesides
import Derived.Lib.Hide
import Derived.Deep.RegionWith
import Derived.Test.YtcbnehplilpidaaFacts
import Derived.Test.YtcbnehplilpidaaNumV
import Derived.Test.YtcbnehplilpidaaShelf
import Derived.Test.YtcbnehplilpidaaDraws
set_option linter.unusedVariables false
set_option linter.unusedSimpArgs false
namespace Go.Proofs.Ytcbnehplilpidaa
open Go.RowKit Tryst
set_option maxHeartbeats 400000
set_option maxRecDepth 20000
def few (s : ByteArray) : ByteArray := if 70 < s.size then s.extract 0 70 else s
theorem few_le (s : ByteArray) : (few s).size ≤ 70 := by
  unfold few; split
  · simp; omega
  · omega
theorem few_c (x : Bool) (n : Int) (s : ByteArray) (hs : s.size ≤ 1000000000) (w : World) :
    Calls Try.prog 11 #[.agg #[.bool x, .int .i64 n, .string s]] w fun e w' => e = .returned (.agg #[.bool x, .int .i64 n, .string (few s)]) ∧ Below w.heap.size w w' := by
  by_cases h : 70 < s.size
  all_goals
    go_enter Try.func11, Try.ntmps11
    go_wp2
    first | rw [show few s = s.extract 0 70 by unfold few; rw [if_pos (by omega)]] | rw [show few s = s by unfold few; rw [if_neg (by omega)]]
    exact bodyPost_ret (v := .agg #[.bool x, .int .i64 n, .string _]) (by simp [results, Try.results11, go_sem, *]) rfl ⟨rfl, by repeat (first | exact Below.refl _ _ | refine bdrew ?_ | refine balloc _ ?_ | refine bset _ (by simp) ?_ | refine bstep (by assumption) ?_)⟩
theorem may_yes {x : Bool} {n : Int} {s : ByteArray} (hs : s.size ≤ 1000000000) (h : V.May ⟨x, n, s.data.toList⟩) (w : World) :
    Calls Try.prog 43 #[.agg #[.bool x, .int .i64 n, .string s]] w fun e w' => e = .returned (.bool true) ∧ Below w.heap.size w w' :=
  (may_c x n s hs w).mono fun _ _ ⟨h1, h2⟩ => ⟨h1.trans (ret_bool (by unfold V.mayB; simp [h])), h2⟩
theorem may_no {x : Bool} {n : Int} {s : ByteArray} (hs : s.size ≤ 1000000000) (h : ¬ V.May ⟨x, n, s.data.toList⟩) (w : World) :
    Calls Try.prog 43 #[.agg #[.bool x, .int .i64 n, .string s]] w fun e w' => e = .returned (.bool false) ∧ Below w.heap.size w w' :=
  (may_c x n s hs w).mono fun _ _ ⟨h1, h2⟩ => ⟨h1.trans (ret_bool (by unfold V.mayB; simp [h])), h2⟩
theorem lay_no {x : Bool} {n : Int} {s : ByteArray} (hs : s.size ≤ 1000000000) (h : ¬ V.May ⟨x, n, s.data.toList⟩) (w : World) :
    Calls Try.prog 51 #[.agg #[.bool x, .int .i64 n, .string s]] w fun e w' => e = .returned (.tuple #[.string ⟨#[]⟩, .int .i64 1]) ∧ Below w.heap.size w w' := by
  have H := Lib.hid h
  clear h
  go_enter Try.func51, Try.ntmps51
  go_wp2_with (go_at_call 43; refine (may_no hs H.out _).mono ?_; rintro e w1 ⟨rfl, hb1⟩)
  go_ret2
  exact ⟨rfl, by repeat (first | exact Below.refl _ _ | refine bdrew ?_ | refine balloc _ ?_ | refine bset _ (by simp) ?_ | refine bstep (by assumption) ?_)⟩
theorem lay_yes {x : Bool} {n : Int} {s : ByteArray} (hs : s.size ≤ 1000000000) (h0 : -9223372036854775808 ≤ n) (h1 : n ≤ 9223372036854775807) (h : V.May ⟨x, n, s.data.toList⟩) (w : World) :
    Calls Try.prog 51 #[.agg #[.bool x, .int .i64 n, .string s]] w fun e w' => e = .returned (.tuple #[.string ⟨(V.lay ⟨x, n, s.data.toList⟩).toArray⟩, .int .i64 0]) ∧ Below w.heap.size w w' := by
  have H := Lib.hid h
  clear h
  have hv := cv1
  have hn := cellNum_some
  have hl1 : (pack (fold n)).length ≤ 1000000 := by have := packF_length 9 (fold n); unfold pack; omega
  have hl2 : (pack s.size).length ≤ 1000000 := by have := packF_length 9 s.size; unfold pack; omega
  have hf : (fold n : Nat) ≤ 18446744073709551615 := by have := fold_lt (n := n) (by omega) (by omega); omega
  cases x with
  | true =>
    go_enter Try.func51, Try.ntmps51
    go_wp2_with (go_at_call 43; refine (may_yes hs H.out _).mono ?_; rintro e w1 ⟨rfl, hb1⟩; obtain ⟨hc1, hf1⟩ := bcell hb1; have hz1 : w.heap.size < w1.heap.size := by have := hb1.size; simp at this; omega)
    refine wp_region_grows [.cells [.int .u8 1], .is (.string ⟨#[1]⟩), .is (.pointer (some ⟨w.heap.size, 1, none⟩)), .is (.int .i64 n), .is (.int .u64 (fold n)), .is (.string ⟨(pack (fold n)).toArray⟩), .is (.string (⟨#[1]⟩ ++ ⟨(pack (fold n)).toArray⟩))] (by kernel_rfl) (by kernel_rfl) ?obl ?fin
    case obl =>
      simp only [AllObl, dstL, Obl, depsR, holdR, tmpsOf, Op.operands, Call.operands, Rsp.pred, wantedV_none, if_true, List.map_cons, List.map_nil, List.length_map, List.take_succ_cons, List.take_zero, List.length_cons, List.length_nil, List.getElem?_cons_zero, List.getElem?_cons_succ, Option.bind_some, id, List.getD_cons_zero, List.getD_cons_succ, isDst, List.filterMap_cons, List.filterMap_nil, List.toList_toArray]
      repeat' apply And.intro
      any_goals trivial
      all_goals (intro tv w' hg hold hd; (try simp at hold); obtain ⟨hcg, hfg⟩ := Grow.cells hg; have hsg := Grow.le hg)
      all_goals first | (go_simp; done) | (go_simp; rw [if_neg (by omega)]; exact ⟨.refl _, rfl⟩) | (obtain ⟨⟨g, hvg, hgg, hcell⟩, _⟩ := hd; have hcell0 := hcell 0 (by decide); simp at hcell0; go_simp; done) | (go_simp; go_at_call 76; refine (fold_c n (by omega) (by omega) _).mono ?_; rintro e w2 ⟨rfl, rfl⟩; exact ⟨.refl _, rfl⟩) | (go_simp; go_at_call 50; refine (packAll_c _ _ (by omega) (by omega)).mono ?_; rintro e w2 ⟨rfl, hb2⟩; rw [Int.toNat_natCast]; exact ⟨hb2, rfl⟩)
    case fin =>
      intro tv w' hg hR
      simp only [allR, dstL, Rsp.pred, List.map_cons, List.map_nil, List.take_succ_cons, List.take_zero, List.length_cons, List.length_nil, List.tail_cons, List.toList_toArray] at hR
      obtain ⟨hcg, hfg⟩ := Grow.cells hg
      have hsg := Grow.le hg
      simp only [putAll, dstL, List.map_cons, List.map_nil, List.take_succ_cons, List.take_zero, List.length_cons, List.length_nil, List.toList_toArray, List.drop_succ_cons, List.drop_zero, Act.put, List.setIfInBounds_toArray, List.set_cons_zero, List.set_cons_succ, hR]
      go_wp2
      go_ret2
      refine ⟨ret_eq ?_, ?_⟩
      · show Value.tuple #[.string _, .int .i64 0] = _
        rw [show V.lay ⟨true, n, s.data.toList⟩ = [1] ++ pack (fold n) from rfl, ← ByteArray.mk_append_mk]
      · (repeat (first | exact Below.refl _ _ | assumption | refine bdrew ?_ | refine balloc _ ?_ | refine bset _ (by simp) ?_ | refine bstep (by assumption) ?_ | refine Grow.below (by assumption) ?_ | refine Tryst2.Grow.below (by assumption) ?_))
  | false =>
    have hw8 : IntKind.u64.wrap (s.size : Int) = s.size := by rw [IntKind.wrap_u64]; omega
    go_enter Try.func51, Try.ntmps51
    go_wp2_with (go_at_call 43; refine (may_yes hs H.out _).mono ?_; rintro e w1 ⟨rfl, hb1⟩; obtain ⟨hc1, hf1⟩ := bcell hb1; have hz1 : w.heap.size < w1.heap.size := by have := hb1.size; simp at this; omega)
    refine wp_region_grows [.cells [.int .u8 2], .is (.string ⟨#[2]⟩), .is (.pointer (some ⟨w.heap.size, 2, none⟩)), .is (.string s), .is (.int .i64 s.size), .is (.int .u64 s.size), .is (.string ⟨(pack s.size).toArray⟩), .is (.string (⟨#[2]⟩ ++ ⟨(pack s.size).toArray⟩)), .is (.pointer (some ⟨w.heap.size, 2, none⟩)), .is (.string s), .is (.string (⟨#[2]⟩ ++ ⟨(pack s.size).toArray⟩ ++ s))] (by kernel_rfl) (by kernel_rfl) ?obl ?fin
    case obl =>
      simp only [AllObl, dstL, Obl, depsR, holdR, tmpsOf, Op.operands, Call.operands, Rsp.pred, wantedV_none, if_true, List.map_cons, List.map_nil, List.length_map, List.take_succ_cons, List.take_zero, List.length_cons, List.length_nil, List.getElem?_cons_zero, List.getElem?_cons_succ, Option.bind_some, id, List.getD_cons_zero, List.getD_cons_succ, isDst, List.filterMap_cons, List.filterMap_nil, List.toList_toArray]
      repeat' apply And.intro
      any_goals trivial
      all_goals (intro tv w' hg hold hd; (try simp at hold); obtain ⟨hcg, hfg⟩ := Grow.cells hg; have hsg := Grow.le hg)
      all_goals first | (go_simp; done) | (go_simp; rw [if_neg (by omega)]; exact ⟨.refl _, rfl⟩) | (obtain ⟨⟨g, hvg, hgg, hcell⟩, _⟩ := hd; have hcell0 := hcell 0 (by decide); simp at hcell0; go_simp; done) | (go_simp; go_at_call 50; refine (packAll_c _ _ (by omega) (by omega)).mono ?_; rintro e w2 ⟨rfl, hb2⟩; rw [Int.toNat_natCast]; exact ⟨hb2, rfl⟩)
    case fin =>
      intro tv w' hg hR
      simp only [allR, dstL, Rsp.pred, List.map_cons, List.map_nil, List.take_succ_cons, List.take_zero, List.length_cons, List.length_nil, List.tail_cons, List.toList_toArray] at hR
      obtain ⟨hcg, hfg⟩ := Grow.cells hg
      have hsg := Grow.le hg
      simp only [putAll, dstL, List.map_cons, List.map_nil, List.take_succ_cons, List.take_zero, List.length_cons, List.length_nil, List.toList_toArray, List.drop_succ_cons, List.drop_zero, Act.put, List.setIfInBounds_toArray, List.set_cons_zero, List.set_cons_succ, hR]
      go_wp2
      go_ret2
      refine ⟨ret_eq ?_, ?_⟩
      · show Value.tuple #[.string _, .int .i64 0] = _
        rw [show V.lay ⟨false, n, s.data.toList⟩ = [2] ++ pack s.data.toList.length ++ s.data.toList from rfl, ← ByteArray.mk_append_mk, ← ByteArray.mk_append_mk, len_str]
      · (repeat (first | exact Below.refl _ _ | assumption | refine bdrew ?_ | refine balloc _ ?_ | refine bset _ (by simp) ?_ | refine bstep (by assumption) ?_ | refine Grow.below (by assumption) ?_ | refine Tryst2.Grow.below (by assumption) ?_))
theorem rlay_c {x : Bool} {n : Int} {s : ByteArray} (hs : s.size ≤ 1000000000) (h0 : -9223372036854775808 ≤ n) (h1 : n ≤ 9223372036854775807) (w : World) :
    Calls Try.prog 58 #[.agg #[.bool x, .int .i64 n, .string s]] w fun e w' => e = .returned (.string ⟨(V.lay ⟨x, n, s.data.toList⟩).toArray⟩) ∧ Below w.heap.size w w' := by
  have hl1 : (pack (fold n)).length ≤ 1000000 := by have := packF_length 9 (fold n); unfold pack; omega
  have hl2 : (pack s.size).length ≤ 1000000 := by have := packF_length 9 s.size; unfold pack; omega
  have hf : (fold n : Nat) ≤ 18446744073709551615 := by have := fold_lt (n := n) (by omega) (by omega); omega
  cases x with
  | true =>
    go_enter Try.func58, Try.ntmps58
    go_wp2_with (first | (go_at_call 79; refine (rfold_c n (by omega) (by omega) _).mono ?_; rintro e w2 ⟨rfl, rfl⟩) | (go_at_call 57; refine (rpackAll_c _ _ (by omega) (by omega)).mono ?_; rintro e w2 ⟨rfl, hb2⟩; rw [Int.toNat_natCast]))
    go_ret
    refine ⟨ret_eq ?_, ?_⟩
    · show Value.string _ = _
      rw [show V.lay ⟨true, n, s.data.toList⟩ = [1] ++ pack (fold n) from rfl, ← ByteArray.mk_append_mk]
    · (repeat (first | exact Below.refl _ _ | assumption | refine bdrew ?_ | refine balloc _ ?_ | refine bset _ (by simp) ?_ | refine bstep (by assumption) ?_ | refine Grow.below (by assumption) ?_ | refine Tryst2.Grow.below (by assumption) ?_))
  | false =>
    have hw8 : IntKind.u64.wrap (s.size : Int) = s.size := by rw [IntKind.wrap_u64]; omega
    go_enter Try.func58, Try.ntmps58
    go_wp2_with fail
    refine wp_region_grows [.is (.pointer (some ⟨w.heap.size, 2, none⟩)), .is (.string s), .is (.int .i64 s.size), .is (.int .u64 s.size), .is (.string ⟨(pack s.size).toArray⟩), .is (.string (⟨#[2]⟩ ++ ⟨(pack s.size).toArray⟩)), .is (.pointer (some ⟨w.heap.size, 2, none⟩)), .is (.string s), .is (.string (⟨#[2]⟩ ++ ⟨(pack s.size).toArray⟩ ++ s))] (by kernel_rfl) (by kernel_rfl) ?obl ?fin
    case obl =>
      simp only [AllObl, dstL, Obl, depsR, holdR, tmpsOf, Op.operands, Call.operands, Rsp.pred, wantedV_none, if_true, List.map_cons, List.map_nil, List.length_map, List.take_succ_cons, List.take_zero, List.length_cons, List.length_nil, List.getElem?_cons_zero, List.getElem?_cons_succ, Option.bind_some, id, List.getD_cons_zero, List.getD_cons_succ, isDst, List.filterMap_cons, List.filterMap_nil, List.toList_toArray]
      repeat' apply And.intro
      any_goals trivial
      all_goals (intro tv w' hg hold hd; (try simp at hold); obtain ⟨hcg, hfg⟩ := Grow.cells hg; have hsg := Grow.le hg)
      all_goals first | (go_simp; done) | (go_simp; rw [if_neg (by omega)]; exact ⟨.refl _, rfl⟩) | (obtain ⟨⟨g, hvg, hgg, hcell⟩, _⟩ := hd; have hcell0 := hcell 0 (by decide); simp at hcell0; go_simp; done) | (go_simp; go_at_call 57; refine (rpackAll_c _ _ (by omega) (by omega)).mono ?_; rintro e w2 ⟨rfl, hb2⟩; rw [Int.toNat_natCast]; exact ⟨hb2, rfl⟩)
    case fin =>
      intro tv w' hg hR
      simp only [allR, dstL, Rsp.pred, List.map_cons, List.map_nil, List.take_succ_cons, List.take_zero, List.length_cons, List.length_nil, List.tail_cons, List.toList_toArray] at hR
      obtain ⟨hcg, hfg⟩ := Grow.cells hg
      have hsg := Grow.le hg
      simp only [putAll, dstL, List.map_cons, List.map_nil, List.take_succ_cons, List.take_zero, List.length_cons, List.length_nil, List.toList_toArray, List.drop_succ_cons, List.drop_zero, Act.put, List.setIfInBounds_toArray, List.set_cons_zero, List.set_cons_succ, hR]
      go_wp2
      go_ret
      refine ⟨ret_eq ?_, ?_⟩
      · show Value.string _ = _
        rw [show V.lay ⟨false, n, s.data.toList⟩ = [2] ++ pack s.data.toList.length ++ s.data.toList from rfl, ← ByteArray.mk_append_mk, ← ByteArray.mk_append_mk, len_str]
      · (repeat (first | exact Below.refl _ _ | assumption | refine bdrew ?_ | refine balloc _ ?_ | refine bset _ (by simp) ?_ | refine bstep (by assumption) ?_ | refine Grow.below (by assumption) ?_ | refine Tryst2.Grow.below (by assumption) ?_))
end Go.Proofs.Ytcbnehplilpidaa
