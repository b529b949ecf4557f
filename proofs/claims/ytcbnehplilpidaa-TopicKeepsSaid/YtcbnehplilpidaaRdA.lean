/- The walks of reader.number and reader.text. -/
import Derived.Test.YtcbnehplilpidaaProg
import Derived.WalkKit
import Derived.WalkSpells
import Derived.WalkLawsBesides
import Derived.Lib.Hide
import Derived.Deep.RegionWith
import Derived.Deep.Cut
import Derived.Test.YtcbnehplilpidaaFacts
import Derived.Test.YtcbnehplilpidaaFldG
import Derived.Test.YtcbnehplilpidaaNumV
set_option linter.unusedVariables false
set_option linter.unusedSimpArgs false
namespace Tryst
open Go Go.RowKit
theorem rnum_le (l : List UInt8) (most a e : Nat) (ha : a ≤ l.length) : (rnum l most (a, e)).1 ≤ most ∧ (rnum l most (a, e)).2.1 ≤ l.length := by
  unfold rnum
  split
  · exact ⟨by simp, ha⟩
  · split
    · exact ⟨by simp, ha⟩
    · split
      · exact ⟨by simp, ha⟩
      · rename_i h1 h2 h3
        refine ⟨by omega, ?_⟩
        simp only at h2 h3 ⊢
        obtain ⟨n, k, e', h⟩ : ∃ n k e', unp (l.drop a) = (n, k, e') := ⟨_, _, _, rfl⟩
        rw [h] at h2 ⊢
        simp only [ne_eq, Decidable.not_not] at h2
        subst h2
        have := (unp_ok h).2.2.1
        rw [List.length_drop] at this
        show a + k ≤ _
        omega
theorem rtext_le (l : List UInt8) (most a e : Nat) (ha : a ≤ l.length) : (rtext l most (a, e)).1.length ≤ most ∧ (rtext l most (a, e)).2.1 ≤ l.length := by
  obtain ⟨h1, h2⟩ := rnum_le l most a e ha
  unfold rtext
  split
  · exact ⟨by simp, h2⟩
  · split
    · exact ⟨by simp, h2⟩
    · refine ⟨by rw [List.length_take]; omega, ?_⟩
      show _ + _ ≤ _
      omega
theorem rval_le (l : List UInt8) (a e : Nat) (ha : a ≤ l.length) : (rval l (a, e)).2.1 ≤ l.length ∧ (rval l (a, e)).1.s.length ≤ 60 ∧ (rval l (a, e)).1.Fits := by
  unfold rval
  split
  · exact ⟨ha, by simp [V.zero], by simp [V.zero, V.Fits]⟩
  · rcases take_err (l.drop a) with h | ⟨h1, h2⟩
    · obtain ⟨v, k, e', hh⟩ : ∃ v k e', takeV (l.drop a) = (v, k, e') := ⟨_, _, _, rfl⟩
      simp only at h ⊢
      rw [hh] at h ⊢
      simp only at h
      subst h
      obtain ⟨g1, g2, g3, g4, g5⟩ := take_ok hh
      rw [List.length_drop] at g4
      refine ⟨by show a + k ≤ _; omega, ?_, g2⟩
      unfold V.May at g1
      split at g1
      · rw [g1]; simp
      · exact g1.2
    · simp only
      rw [h1, h2]
      exact ⟨by omega, by simp [V.zero], by simp [V.zero, V.Fits]⟩
/-- a reader's three cells -/
structure RAt (w : World) (g : Nat) (s : ByteArray) (a e : Nat) : Prop where
  c0 : w.cell? ⟨g, 0, none⟩ = some (.string s)
  c1 : w.cell? ⟨g, 1, none⟩ = some (.int .i64 a)
  c2 : w.cell? ⟨g, 2, none⟩ = some (.int .i64 e)
  f1 : w.frozen? ⟨g, 1, none⟩ = false
  f2 : w.frozen? ⟨g, 2, none⟩ = false
  hz : g < w.heap.size
/-- nothing but this block has turned -/
structure Only (g : Nat) (w w' : World) : Prop where
  below : Below g w w'
  keep : ∀ k, k < w.heap.size → k ≠ g → w'.heap[k]? = w.heap[k]?
theorem Only.refl (g : Nat) (w : World) : Only g w w := ⟨.refl _ _, fun _ _ _ => rfl⟩
theorem Only.trans {g : Nat} {u v w : World} (h : Only g u v) (k : Only g v w) : Only g u w :=
  ⟨h.below.trans k.below, fun i hi hg => (k.keep i (Nat.lt_of_lt_of_le hi h.below.size) hg).trans (h.keep i hi hg)⟩
theorem Only.drew {g : Nat} {u v : World} (h : Only g u v) : Only g u v.drew := ⟨h.below.drew, h.keep⟩
theorem Only.set {g : Nat} {u v : World} (h : Only g u v) (o : Nat) (x : Value) : Only g u (v.setCell ⟨g, o, none⟩ x) :=
  ⟨h.below.setCell (p := ⟨g, o, none⟩) (Nat.le_refl _) x, fun k hk hg => by
    rw [Below.heap_setCell _ _ _ _ (fun e => hg e)]; exact h.keep k hk hg⟩
theorem Only.ofBelow {g : Nat} {u v : World} (hg : g < u.heap.size) (h : Below u.heap.size u v) : Only g u v := ⟨h.mono (Nat.le_of_lt hg), fun k hk _ => h.block k hk⟩
theorem RAt.grow {v w : World} {g : Nat} {s : ByteArray} {a e : Nat} (h : RAt v g s a e) (hb : Below v.heap.size v w) : RAt w g s a e := by
  obtain ⟨h0, h1, h2, h3, h4, h5⟩ := h
  exact ⟨by rw [hb.cell (p := ⟨g, 0, none⟩) h5]; exact h0, by rw [hb.cell (p := ⟨g, 1, none⟩) h5]; exact h1, by rw [hb.cell (p := ⟨g, 2, none⟩) h5]; exact h2, by rw [hb.frozen (p := ⟨g, 1, none⟩) h5]; exact h3, by rw [hb.frozen (p := ⟨g, 2, none⟩) h5]; exact h4, Nat.lt_of_lt_of_le h5 hb.size⟩
theorem RAt.set2 {w : World} {g : Nat} {s : ByteArray} {a e e' : Nat} (h : RAt w g s a e) : RAt (w.setCell ⟨g, 2, none⟩ (.int .i64 e')) g s a e' := by
  obtain ⟨h0, h1, h2, h3, h4, h5⟩ := h
  constructor <;> simp [cell_setCell, frozen_setCell, h0, h1, h2, h3, h4, h5]
theorem RAt.set1 {w : World} {g : Nat} {s : ByteArray} {a e a' : Nat} (h : RAt w g s a e) : RAt (w.setCell ⟨g, 1, none⟩ (.int .i64 a')) g s a' e := by
  obtain ⟨h0, h1, h2, h3, h4, h5⟩ := h
  constructor <;> simp [cell_setCell, frozen_setCell, h0, h1, h2, h3, h4, h5]
theorem RAt.at {v w : World} {g c : Nat} {s : ByteArray} {a e : Nat} (h : RAt v g s a e) (ho : Only c v w) (hc : g ≠ c) : RAt w g s a e := by
  obtain ⟨h0, h1, h2, h3, h4, h5⟩ := h
  have hb := ho.keep g h5 hc
  have hf : ∀ j, w.frozen? ⟨g, j, none⟩ = v.frozen? ⟨g, j, none⟩ := fun j => by simp [World.frozen?, hb]
  exact ⟨by rw [World.cell?_of_block (w := v) (a := ⟨g, 0, none⟩) hb]; exact h0, by rw [World.cell?_of_block (w := v) (a := ⟨g, 1, none⟩) hb]; exact h1, by rw [World.cell?_of_block (w := v) (a := ⟨g, 2, none⟩) hb]; exact h2, by rw [hf]; exact h3, by rw [hf]; exact h4, Nat.lt_of_lt_of_le h5 ho.below.size⟩
end Tryst
namespace Go.Proofs.Ytcbnehplilpidaa
open Go.RowKit Tryst
set_option maxHeartbeats 400000
set_option maxRecDepth 20000
theorem drop_str (s : ByteArray) (a : Nat) : (s.extract a s.size).data.toList = s.data.toList.drop a := by
  rw [sub_str, List.take_of_length_le (by simp)]
def NumR (w : World) (g : Nat) (s : ByteArray) (n a e : Nat) (x : Ending) (w' : World) : Prop := x = .returned (.int .u64 n) ∧ RAt w' g s a e ∧ Only g w w'
theorem rnum_cases (s : ByteArray) (most a : Nat) (ha : a ≤ s.size) :
    (∃ n k, unp (s.extract a s.size).data.toList = (n, k, 0) ∧ n ≤ most ∧ a + k ≤ s.size ∧ rnum s.data.toList most (a, 0) = (n, (a + k, 0))) ∨
    (∃ n k, unp (s.extract a s.size).data.toList = (n, k, 0) ∧ most < n ∧ n < 2 ^ 64 ∧ rnum s.data.toList most (a, 0) = (0, (a, 2))) ∨
    (unp (s.extract a s.size).data.toList = (0, 0, 2) ∧ rnum s.data.toList most (a, 0) = (0, (a, 2))) ∨
    (unp (s.extract a s.size).data.toList = (0, 0, 3) ∧ rnum s.data.toList most (a, 0) = (0, (a, 3))) := by
  rw [drop_str]
  unfold rnum
  simp only [ne_eq, not_true_eq_false, if_false]
  rcases unp_err (s.data.toList.drop a) with h | h | h
  · obtain ⟨n, k, e', hh⟩ : ∃ n k e', unp (s.data.toList.drop a) = (n, k, e') := ⟨_, _, _, rfl⟩
    rw [hh] at h ⊢
    simp only at h
    subst h
    have hk := unp_ok hh
    rw [List.length_drop, len_str] at hk
    by_cases hm : n ≤ most
    · exact .inl ⟨n, k, rfl, hm, by omega, by simp; omega⟩
    · exact .inr (.inl ⟨n, k, rfl, by omega, hk.1, by simp; omega⟩)
  · exact .inr (.inr (.inl ⟨h, by rw [h]; simp⟩))
  · exact .inr (.inr (.inr ⟨h, by rw [h]; simp⟩))
set_option maxHeartbeats 1000000 in
theorem number_c (g : Nat) (s : ByteArray) (hs : s.size ≤ 1000000000) (a e most : Nat) (ha : a ≤ s.size) (he : e ≤ 3) (hm : most ≤ 18446744073709551615) (w : World) (h : RAt w g s a e) :
    Calls Try.prog 54 #[.pointer (some ⟨g, 0, none⟩), .int .u64 most] w fun x w' => NumR w g s (rnum s.data.toList most (a, e)).1 (rnum s.data.toList most (a, e)).2.1 (rnum s.data.toList most (a, e)).2.2 x w' := by
  have HR := Lib.hid h
  have hgz := h.hz
  obtain ⟨c0, c1, c2, f1, f2, _⟩ := h
  by_cases h0 : e = 0
  · subst h0
    have hxz : (s.extract a s.size).size ≤ 1000000000 := by rw [ByteArray.size_extract]; omega
    have x1 : (a : Int) ≤ s.size := by omega
    have x2 : (0 : Int) ≤ a := by omega
    rcases rnum_cases s most a ha with ⟨n, k, hu, hn, hk, hr⟩ | ⟨n, k, hu, hn, hn2, hr⟩ | ⟨hu, hr⟩ | ⟨hu, hr⟩
    · rw [hr]
      have HU := Lib.hid hu
      have y1 : ¬ (most : Int) < n := by omega
      have y2 : IntKind.i64.wrap ((a : Int) + k) = (a : Int) + k := IntWalk.i64_in _ (by omega)
      clear hu hr
      go_enter Try.func54, Try.ntmps54
      go_wp2_with fail
      refine Tryst2.wp_region_grows [.is (.pointer (some ⟨g, 0, none⟩)), .is (.pointer (some ⟨g, 0, none⟩)), .is (.pointer (some ⟨g, 0, none⟩)), .is (.string s), .is (.pointer (some ⟨g, 0, none⟩)), .is (.pointer (some ⟨g, 0, none⟩)), .is (.pointer (some ⟨g, 1, none⟩)), .is (.int .i64 a), .is (.string (s.extract a s.size)), .is (.tuple #[.int .u64 n, .int .i64 k, .int .i64 0]), .is (.tuple #[.int .u64 n, .int .i64 k, .int .i64 0]), .is (.int .u64 n), .is (.int .i64 k), .is (.int .i64 0), .is (.int .u64 n), .is (.int .i64 k), .is (.int .i64 0)] (by kernel_rfl) (by kernel_rfl) ?obl ?fin
      case obl =>
        simp only [Tryst2.AllObl, Tryst2.dstL, Tryst2.Obl, Tryst2.depsOf, Tryst2.binds_data, Tryst2.binds_chain, Tryst2.binds_phase, Tryst2.binds_guard, Tryst2.binds_text, Tryst2.binds_gc, Bool.false_eq_true, if_false, List.filterMap_cons_some, List.filterMap_cons_none, Tryst2.depsR, Tryst2.holdR, Tryst2.tmpsOf, Op.operands, Call.operands, Tryst2.Rsp.pred, Tryst2.wantedV_none, if_true, List.map_cons, List.map_nil, List.length_map, List.take_succ_cons, List.take_zero, List.length_cons, List.length_nil, List.getElem?_cons_zero, List.getElem?_cons_succ, Option.bind_some, id, List.getD_cons_zero, List.getD_cons_succ, Tryst2.isDst, List.filterMap_cons, List.filterMap_nil, List.toList_toArray]
        repeat' apply And.intro
        any_goals trivial
        all_goals (intro tv w' hg hold hd; (try simp at hold); obtain ⟨hcg, hfg⟩ := Tryst2.Grow.cells hg; have hsg := Tryst2.Grow.le hg)
        all_goals first | (go_simp; done) | (go_simp; rw [if_neg (by omega)]; exact ⟨.refl _, rfl⟩) | (obtain ⟨⟨g, hvg, hgg, hcell⟩, _⟩ := hd; have hcell0 := hcell 0 (by decide); simp at hcell0; go_simp; done) | (go_simp; refine (unpack_ok hxz HU.out _).mono ?_; rintro e w2 ⟨rfl, rfl⟩; exact ⟨Tryst2.Grow.refl _, rfl⟩)
      case fin =>
        intro tv w' hg hR
        simp only [Tryst2.allR, Tryst2.dstL, Tryst2.Rsp.pred, List.map_cons, List.map_nil, List.take_succ_cons, List.take_zero, List.length_cons, List.length_nil, List.tail_cons, List.toList_toArray] at hR
        obtain ⟨hcg, hfg⟩ := Tryst2.Grow.cells hg
        have hsg := Tryst2.Grow.le hg
        simp only [Tryst2.putAll, Tryst2.dstL, List.map_cons, List.map_nil, List.take_succ_cons, List.take_zero, List.length_cons, List.length_nil, List.toList_toArray, List.drop_succ_cons, List.drop_zero, Act.put, List.setIfInBounds_toArray, List.set_cons_zero, List.set_cons_succ, hR]
        have hbw := Tryst2.Grow.below hg (.refl w.heap.size w)
        have HRw := Lib.hid (HR.out.grow hbw)
        have HOw := Lib.hid (Only.ofBelow hgz hbw)
        obtain ⟨d0, d1, d2, d3, d4, d5⟩ := HRw.out
        clear hg hR hcg hfg hsg hbw c0 c1 c2 f1 f2
        go_wp2_with fail
        go_ret
        exact ⟨rfl, HRw.out.set1, HOw.out.set 1 _⟩
    · rw [hr]
      have HU := Lib.hid hu
      have y1 : (most : Int) < n := by omega
      clear hu hr
      go_enter Try.func54, Try.ntmps54
      go_wp2_with fail
      refine Tryst2.wp_region_grows [.is (.pointer (some ⟨g, 0, none⟩)), .is (.pointer (some ⟨g, 0, none⟩)), .is (.pointer (some ⟨g, 0, none⟩)), .is (.string s), .is (.pointer (some ⟨g, 0, none⟩)), .is (.pointer (some ⟨g, 0, none⟩)), .is (.pointer (some ⟨g, 1, none⟩)), .is (.int .i64 a), .is (.string (s.extract a s.size)), .is (.tuple #[.int .u64 n, .int .i64 k, .int .i64 0]), .is (.tuple #[.int .u64 n, .int .i64 k, .int .i64 0]), .is (.int .u64 n), .is (.int .i64 k), .is (.int .i64 0), .is (.int .u64 n), .is (.int .i64 k), .is (.int .i64 0)] (by kernel_rfl) (by kernel_rfl) ?obl ?fin
      case obl =>
        simp only [Tryst2.AllObl, Tryst2.dstL, Tryst2.Obl, Tryst2.depsOf, Tryst2.binds_data, Tryst2.binds_chain, Tryst2.binds_phase, Tryst2.binds_guard, Tryst2.binds_text, Tryst2.binds_gc, Bool.false_eq_true, if_false, List.filterMap_cons_some, List.filterMap_cons_none, Tryst2.depsR, Tryst2.holdR, Tryst2.tmpsOf, Op.operands, Call.operands, Tryst2.Rsp.pred, Tryst2.wantedV_none, if_true, List.map_cons, List.map_nil, List.length_map, List.take_succ_cons, List.take_zero, List.length_cons, List.length_nil, List.getElem?_cons_zero, List.getElem?_cons_succ, Option.bind_some, id, List.getD_cons_zero, List.getD_cons_succ, Tryst2.isDst, List.filterMap_cons, List.filterMap_nil, List.toList_toArray]
        repeat' apply And.intro
        any_goals trivial
        all_goals (intro tv w' hg hold hd; (try simp at hold); obtain ⟨hcg, hfg⟩ := Tryst2.Grow.cells hg; have hsg := Tryst2.Grow.le hg)
        all_goals first | (go_simp; done) | (go_simp; rw [if_neg (by omega)]; exact ⟨.refl _, rfl⟩) | (obtain ⟨⟨g, hvg, hgg, hcell⟩, _⟩ := hd; have hcell0 := hcell 0 (by decide); simp at hcell0; go_simp; done) | (go_simp; refine (unpack_ok hxz HU.out _).mono ?_; rintro e w2 ⟨rfl, rfl⟩; exact ⟨Tryst2.Grow.refl _, rfl⟩)
      case fin =>
        intro tv w' hg hR
        simp only [Tryst2.allR, Tryst2.dstL, Tryst2.Rsp.pred, List.map_cons, List.map_nil, List.take_succ_cons, List.take_zero, List.length_cons, List.length_nil, List.tail_cons, List.toList_toArray] at hR
        obtain ⟨hcg, hfg⟩ := Tryst2.Grow.cells hg
        have hsg := Tryst2.Grow.le hg
        simp only [Tryst2.putAll, Tryst2.dstL, List.map_cons, List.map_nil, List.take_succ_cons, List.take_zero, List.length_cons, List.length_nil, List.toList_toArray, List.drop_succ_cons, List.drop_zero, Act.put, List.setIfInBounds_toArray, List.set_cons_zero, List.set_cons_succ, hR]
        have hbw := Tryst2.Grow.below hg (.refl w.heap.size w)
        have HRw := Lib.hid (HR.out.grow hbw)
        have HOw := Lib.hid (Only.ofBelow hgz hbw)
        obtain ⟨d0, d1, d2, d3, d4, d5⟩ := HRw.out
        clear hg hR hcg hfg hsg hbw c0 c1 c2 f1 f2
        go_wp2_with fail
        go_ret
        exact ⟨rfl, HRw.out.set2, HOw.out.set 2 _⟩
    · rw [hr]
      have HU := Lib.hid hu
      clear hu hr
      go_enter Try.func54, Try.ntmps54
      go_wp2_with fail
      refine Tryst2.wp_region_grows [.is (.pointer (some ⟨g, 0, none⟩)), .is (.pointer (some ⟨g, 0, none⟩)), .is (.pointer (some ⟨g, 0, none⟩)), .is (.string s), .is (.pointer (some ⟨g, 0, none⟩)), .is (.pointer (some ⟨g, 0, none⟩)), .is (.pointer (some ⟨g, 1, none⟩)), .is (.int .i64 a), .is (.string (s.extract a s.size)), .is (.tuple #[.int .u64 0, .int .i64 0, .int .i64 2]), .is (.tuple #[.int .u64 0, .int .i64 0, .int .i64 2]), .is (.int .u64 0), .is (.int .i64 0), .is (.int .i64 2), .is (.int .u64 0), .is (.int .i64 0), .is (.int .i64 2)] (by kernel_rfl) (by kernel_rfl) ?obl ?fin
      case obl =>
        simp only [Tryst2.AllObl, Tryst2.dstL, Tryst2.Obl, Tryst2.depsOf, Tryst2.binds_data, Tryst2.binds_chain, Tryst2.binds_phase, Tryst2.binds_guard, Tryst2.binds_text, Tryst2.binds_gc, Bool.false_eq_true, if_false, List.filterMap_cons_some, List.filterMap_cons_none, Tryst2.depsR, Tryst2.holdR, Tryst2.tmpsOf, Op.operands, Call.operands, Tryst2.Rsp.pred, Tryst2.wantedV_none, if_true, List.map_cons, List.map_nil, List.length_map, List.take_succ_cons, List.take_zero, List.length_cons, List.length_nil, List.getElem?_cons_zero, List.getElem?_cons_succ, Option.bind_some, id, List.getD_cons_zero, List.getD_cons_succ, Tryst2.isDst, List.filterMap_cons, List.filterMap_nil, List.toList_toArray]
        repeat' apply And.intro
        any_goals trivial
        all_goals (intro tv w' hg hold hd; (try simp at hold); obtain ⟨hcg, hfg⟩ := Tryst2.Grow.cells hg; have hsg := Tryst2.Grow.le hg)
        all_goals first | (go_simp; done) | (go_simp; rw [if_neg (by omega)]; exact ⟨.refl _, rfl⟩) | (obtain ⟨⟨g, hvg, hgg, hcell⟩, _⟩ := hd; have hcell0 := hcell 0 (by decide); simp at hcell0; go_simp; done) | (go_simp; refine (unpack_form hxz HU.out _).mono ?_; rintro e w2 ⟨rfl, rfl⟩; exact ⟨Tryst2.Grow.refl _, rfl⟩)
      case fin =>
        intro tv w' hg hR
        simp only [Tryst2.allR, Tryst2.dstL, Tryst2.Rsp.pred, List.map_cons, List.map_nil, List.take_succ_cons, List.take_zero, List.length_cons, List.length_nil, List.tail_cons, List.toList_toArray] at hR
        obtain ⟨hcg, hfg⟩ := Tryst2.Grow.cells hg
        have hsg := Tryst2.Grow.le hg
        simp only [Tryst2.putAll, Tryst2.dstL, List.map_cons, List.map_nil, List.take_succ_cons, List.take_zero, List.length_cons, List.length_nil, List.toList_toArray, List.drop_succ_cons, List.drop_zero, Act.put, List.setIfInBounds_toArray, List.set_cons_zero, List.set_cons_succ, hR]
        have hbw := Tryst2.Grow.below hg (.refl w.heap.size w)
        have HRw := Lib.hid (HR.out.grow hbw)
        have HOw := Lib.hid (Only.ofBelow hgz hbw)
        obtain ⟨d0, d1, d2, d3, d4, d5⟩ := HRw.out
        clear hg hR hcg hfg hsg hbw c0 c1 c2 f1 f2
        go_wp2_with fail
        go_ret
        exact ⟨rfl, HRw.out.set2, HOw.out.set 2 _⟩
    · rw [hr]
      have HU := Lib.hid hu
      clear hu hr
      go_enter Try.func54, Try.ntmps54
      go_wp2_with fail
      refine Tryst2.wp_region_grows [.is (.pointer (some ⟨g, 0, none⟩)), .is (.pointer (some ⟨g, 0, none⟩)), .is (.pointer (some ⟨g, 0, none⟩)), .is (.string s), .is (.pointer (some ⟨g, 0, none⟩)), .is (.pointer (some ⟨g, 0, none⟩)), .is (.pointer (some ⟨g, 1, none⟩)), .is (.int .i64 a), .is (.string (s.extract a s.size)), .is (.tuple #[.int .u64 0, .int .i64 0, .int .i64 3]), .is (.tuple #[.int .u64 0, .int .i64 0, .int .i64 3]), .is (.int .u64 0), .is (.int .i64 0), .is (.int .i64 3), .is (.int .u64 0), .is (.int .i64 0), .is (.int .i64 3)] (by kernel_rfl) (by kernel_rfl) ?obl ?fin
      case obl =>
        simp only [Tryst2.AllObl, Tryst2.dstL, Tryst2.Obl, Tryst2.depsOf, Tryst2.binds_data, Tryst2.binds_chain, Tryst2.binds_phase, Tryst2.binds_guard, Tryst2.binds_text, Tryst2.binds_gc, Bool.false_eq_true, if_false, List.filterMap_cons_some, List.filterMap_cons_none, Tryst2.depsR, Tryst2.holdR, Tryst2.tmpsOf, Op.operands, Call.operands, Tryst2.Rsp.pred, Tryst2.wantedV_none, if_true, List.map_cons, List.map_nil, List.length_map, List.take_succ_cons, List.take_zero, List.length_cons, List.length_nil, List.getElem?_cons_zero, List.getElem?_cons_succ, Option.bind_some, id, List.getD_cons_zero, List.getD_cons_succ, Tryst2.isDst, List.filterMap_cons, List.filterMap_nil, List.toList_toArray]
        repeat' apply And.intro
        any_goals trivial
        all_goals (intro tv w' hg hold hd; (try simp at hold); obtain ⟨hcg, hfg⟩ := Tryst2.Grow.cells hg; have hsg := Tryst2.Grow.le hg)
        all_goals first | (go_simp; done) | (go_simp; rw [if_neg (by omega)]; exact ⟨.refl _, rfl⟩) | (obtain ⟨⟨g, hvg, hgg, hcell⟩, _⟩ := hd; have hcell0 := hcell 0 (by decide); simp at hcell0; go_simp; done) | (go_simp; refine (unpack_short hxz HU.out _).mono ?_; rintro e w2 ⟨rfl, rfl⟩; exact ⟨Tryst2.Grow.refl _, rfl⟩)
      case fin =>
        intro tv w' hg hR
        simp only [Tryst2.allR, Tryst2.dstL, Tryst2.Rsp.pred, List.map_cons, List.map_nil, List.take_succ_cons, List.take_zero, List.length_cons, List.length_nil, List.tail_cons, List.toList_toArray] at hR
        obtain ⟨hcg, hfg⟩ := Tryst2.Grow.cells hg
        have hsg := Tryst2.Grow.le hg
        simp only [Tryst2.putAll, Tryst2.dstL, List.map_cons, List.map_nil, List.take_succ_cons, List.take_zero, List.length_cons, List.length_nil, List.toList_toArray, List.drop_succ_cons, List.drop_zero, Act.put, List.setIfInBounds_toArray, List.set_cons_zero, List.set_cons_succ, hR]
        have hbw := Tryst2.Grow.below hg (.refl w.heap.size w)
        have HRw := Lib.hid (HR.out.grow hbw)
        have HOw := Lib.hid (Only.ofBelow hgz hbw)
        obtain ⟨d0, d1, d2, d3, d4, d5⟩ := HRw.out
        clear hg hR hcg hfg hsg hbw c0 c1 c2 f1 f2
        go_wp2_with fail
        go_ret
        exact ⟨rfl, HRw.out.set2, HOw.out.set 2 _⟩
  · rw [rnum_keep _ _ _ _ h0]
    have e1 : ((e : Int) != 0) = true := by simp; omega
    have e2 : ((e : Int) == 0) = false := by simp; omega
    go_enter Try.func54, Try.ntmps54
    go_wp2_with fail
    go_ret
    exact ⟨rfl, HR.out, .refl _ _⟩
end Go.Proofs.Ytcbnehplilpidaa
namespace Go.Proofs.Ytcbnehplilpidaa
open Go.RowKit Tryst
set_option maxHeartbeats 400000
set_option maxRecDepth 20000
def TextR (w : World) (g : Nat) (s : ByteArray) (t : List UInt8) (a e : Nat) (x : Ending) (w' : World) : Prop := x = .returned (.string ⟨t.toArray⟩) ∧ RAt w' g s a e ∧ Only g w w'
theorem rnum_err3 (l : List UInt8) (most a e : Nat) (he : e ≤ 3) : (rnum l most (a, e)).2.2 ≤ 3 := by
  unfold rnum
  split
  · exact he
  · split
    · rcases unp_err (l.drop a) with h | h | h
      · rename_i h1 h2; exact absurd h h2
      · show (unp (l.drop a)).2.2 ≤ 3; rw [h]; decide
      · show (unp (l.drop a)).2.2 ≤ 3; rw [h]; decide
    · split <;> simp
theorem rtext_err3 (l : List UInt8) (most a e : Nat) (he : e ≤ 3) : (rtext l most (a, e)).2.2 ≤ 3 := by
  have h := rnum_err3 l most a e he
  unfold rtext
  split
  · exact h
  · split
    · exact Nat.le_refl 3
    · exact Nat.zero_le 3
theorem cut_str (s : ByteArray) (a n : Nat) (h : a + n ≤ s.size) : s.extract a (a + n) = ⟨((s.data.toList.drop a).take n).toArray⟩ := by
  apply str_ext
  rw [sub_str, mk_str, List.drop_take, Nat.add_sub_cancel_left]
set_option maxHeartbeats 1000000 in
theorem rtextM_c (g : Nat) (s : ByteArray) (hs : s.size ≤ 1000000000) (a e most : Nat) (ha : a ≤ s.size) (he : e ≤ 3) (hm : most ≤ 1000000) (w : World) (h : RAt w g s a e) :
    Calls Try.prog 53 #[.pointer (some ⟨g, 0, none⟩), .int .u64 most] w fun x w' => TextR w g s (rtext s.data.toList most (a, e)).1 (rtext s.data.toList most (a, e)).2.1 (rtext s.data.toList most (a, e)).2.2 x w' := by
  obtain ⟨hn1, hn2⟩ := rnum_le s.data.toList most a e (by rw [len_str]; exact ha)
  rw [len_str] at hn2
  have hnum := number_c g s hs a e most ha he (by omega)
  have hrt : rtext s.data.toList most (a, e) = if (rnum s.data.toList most (a, e)).2.2 ≠ 0 then ([], (rnum s.data.toList most (a, e)).2) else if s.size - (rnum s.data.toList most (a, e)).2.1 < (rnum s.data.toList most (a, e)).1 then ([], ((rnum s.data.toList most (a, e)).2.1, 3)) else ((s.data.toList.drop (rnum s.data.toList most (a, e)).2.1).take (rnum s.data.toList most (a, e)).1, ((rnum s.data.toList most (a, e)).2.1 + (rnum s.data.toList most (a, e)).1, 0)) := by
    unfold rtext; rw [len_str]
  have he3 := rnum_err3 s.data.toList most a e he
  rw [hrt]
  clear hrt
  revert hn1 hn2 hnum he3
  generalize rnum s.data.toList most (a, e) = r
  obtain ⟨n, a1, e1⟩ := r
  simp only
  intro hn1 hn2 hnum he3
  have HN := Lib.hid hnum
  have HR := Lib.hid h
  have y1 : IntKind.i64.wrap (n : Int) = n := IntWalk.i64_in _ (by omega)
  clear hnum h
  by_cases h0 : e1 = 0
  · subst h0
    rw [if_neg (by simp)]
    have y2 : IntKind.i64.wrap ((s.size : Int) - a1) = (s.size : Int) - a1 := IntWalk.i64_in _ (by omega)
    have y3 : IntKind.i64.wrap ((a1 : Int) + n) = (a1 : Int) + n := IntWalk.i64_in _ (by omega)
    by_cases hlt : s.size - a1 < n
    · rw [if_pos hlt]
      have x1 : (s.size : Int) - a1 < n := by omega
      go_enter Try.func53, Try.ntmps53
      go_wp2_with fail
      refine (HN.out w HR.out).mono ?_
      rintro x w1 ⟨rfl, hr1, ho1⟩
      have HR1 := Lib.hid hr1
      have HO1 := Lib.hid ho1
      have hgz := hr1.hz
      obtain ⟨d0, d1, d2, d3, d4, d5⟩ := hr1
      clear ho1
      go_wp2_with fail
      refine Tryst2.wp_region_grows [.is (.pointer (some ⟨g, 0, none⟩)), .is (.pointer (some ⟨g, 0, none⟩)), .is (.pointer (some ⟨g, 2, none⟩)), .is (.int .i64 0), .is (.bool true), .is (.bool true), .is (.int .i64 n), .is (.pointer (some ⟨g, 0, none⟩)), .is (.pointer (some ⟨g, 0, none⟩)), .is (.pointer (some ⟨g, 0, none⟩)), .is (.string s), .is (.int .i64 s.size), .is (.pointer (some ⟨g, 0, none⟩)), .is (.pointer (some ⟨g, 0, none⟩)), .is (.pointer (some ⟨g, 1, none⟩)), .is (.int .i64 a1), .is (.int .i64 ((s.size : Int) - a1)), .is (.bool true), .is (.bool true)] (by kernel_rfl) (by kernel_rfl) ?obl ?fin
      case obl =>
        simp only [Tryst2.AllObl, Tryst2.dstL, Tryst2.Obl, Tryst2.depsOf, Tryst2.binds_data, Tryst2.binds_chain, Tryst2.binds_phase, Tryst2.binds_guard, Tryst2.binds_text, Tryst2.binds_gc, Bool.false_eq_true, if_false, List.filterMap_cons_some, List.filterMap_cons_none, Tryst2.depsR, Tryst2.holdR, Tryst2.tmpsOf, Op.operands, Call.operands, Tryst2.Rsp.pred, Tryst2.wantedV_none, Tryst2.wantedV_some, if_true, List.map_cons, List.map_nil, List.length_map, List.take_succ_cons, List.take_zero, List.length_cons, List.length_nil, List.getElem?_cons_zero, List.getElem?_cons_succ, Option.bind_some, id, List.getD_cons_zero, List.getD_cons_succ, Tryst2.isDst, List.filterMap_cons, List.filterMap_nil, List.toList_toArray]
        repeat' apply And.intro
        any_goals trivial
        all_goals (intro tv w' hg hold hd; (try simp at hold); obtain ⟨hcg, hfg⟩ := Tryst2.Grow.cells hg; have hsg := Tryst2.Grow.le hg)
        all_goals first | (go_simp; done) | (go_simp; rw [if_neg (by omega)]; exact ⟨.refl _, rfl⟩) | (obtain ⟨⟨g, hvg, hgg, hcell⟩, _⟩ := hd; have hcell0 := hcell 0 (by decide); simp at hcell0; go_simp; done) 
      case fin =>
        intro tv w' hg hR
        simp only [Tryst2.allR, Tryst2.dstL, Tryst2.Rsp.pred, List.map_cons, List.map_nil, List.take_succ_cons, List.take_zero, List.length_cons, List.length_nil, List.tail_cons, List.toList_toArray] at hR
        obtain ⟨hcg, hfg⟩ := Tryst2.Grow.cells hg
        have hsg := Tryst2.Grow.le hg
        simp only [Tryst2.putAll, Tryst2.dstL, List.map_cons, List.map_nil, List.take_succ_cons, List.take_zero, List.length_cons, List.length_nil, List.toList_toArray, List.drop_succ_cons, List.drop_zero, Act.put, List.setIfInBounds_toArray, List.set_cons_zero, List.set_cons_succ, hR]
        have hbw := Tryst2.Grow.below hg (.refl w1.heap.size w1)
        have HR2 := Lib.hid (HR1.out.grow hbw)
        have HO2 := Lib.hid (HO1.out.trans (Only.ofBelow hgz hbw))
        clear hg hR hcg hfg hsg hbw d0 d1 d2 d3 d4 d5
        obtain ⟨d0, d1, d2, d3, d4, d5⟩ := HR2.out
        go_wp2_with fail
        go_ret
        exact ⟨rfl, HR2.out.set2, HO2.out.set 2 _⟩
    · rw [if_neg hlt]
      have x1 : ¬ (s.size : Int) - a1 < n := by omega
      have hle : a1 + n ≤ s.size := by omega
      have y4 : IntKind.i64.wrap (a1 : Int) = a1 := IntWalk.i64_in _ (by omega)
      have hcut := Lib.hid (cut_str s a1 n hle)
      go_enter Try.func53, Try.ntmps53
      go_wp2_with fail
      refine (HN.out w HR.out).mono ?_
      rintro x w1 ⟨rfl, hr1, ho1⟩
      have HR1 := Lib.hid hr1
      have HO1 := Lib.hid ho1
      have hgz := hr1.hz
      obtain ⟨d0, d1, d2, d3, d4, d5⟩ := hr1
      clear ho1
      go_wp2_with fail
      refine Tryst2.wp_region_grows [.is (.pointer (some ⟨g, 0, none⟩)), .is (.pointer (some ⟨g, 0, none⟩)), .is (.pointer (some ⟨g, 2, none⟩)), .is (.int .i64 0), .is (.bool true), .is (.bool true), .is (.int .i64 n), .is (.pointer (some ⟨g, 0, none⟩)), .is (.pointer (some ⟨g, 0, none⟩)), .is (.pointer (some ⟨g, 0, none⟩)), .is (.string s), .is (.int .i64 s.size), .is (.pointer (some ⟨g, 0, none⟩)), .is (.pointer (some ⟨g, 0, none⟩)), .is (.pointer (some ⟨g, 1, none⟩)), .is (.int .i64 a1), .is (.int .i64 ((s.size : Int) - a1)), .is (.bool false), .is (.bool false)] (by kernel_rfl) (by kernel_rfl) ?obl ?fin
      case obl =>
        simp only [Tryst2.AllObl, Tryst2.dstL, Tryst2.Obl, Tryst2.depsOf, Tryst2.binds_data, Tryst2.binds_chain, Tryst2.binds_phase, Tryst2.binds_guard, Tryst2.binds_text, Tryst2.binds_gc, Bool.false_eq_true, if_false, List.filterMap_cons_some, List.filterMap_cons_none, Tryst2.depsR, Tryst2.holdR, Tryst2.tmpsOf, Op.operands, Call.operands, Tryst2.Rsp.pred, Tryst2.wantedV_none, Tryst2.wantedV_some, if_true, List.map_cons, List.map_nil, List.length_map, List.take_succ_cons, List.take_zero, List.length_cons, List.length_nil, List.getElem?_cons_zero, List.getElem?_cons_succ, Option.bind_some, id, List.getD_cons_zero, List.getD_cons_succ, Tryst2.isDst, List.filterMap_cons, List.filterMap_nil, List.toList_toArray]
        repeat' apply And.intro
        any_goals trivial
        all_goals (intro tv w' hg hold hd; (try simp at hold); obtain ⟨hcg, hfg⟩ := Tryst2.Grow.cells hg; have hsg := Tryst2.Grow.le hg)
        all_goals first | (go_simp; done) | (go_simp; rw [if_neg (by omega)]; exact ⟨.refl _, rfl⟩) | (obtain ⟨⟨g, hvg, hgg, hcell⟩, _⟩ := hd; have hcell0 := hcell 0 (by decide); simp at hcell0; go_simp; done) 
      case fin =>
        intro tv w' hg hR
        simp only [Tryst2.allR, Tryst2.dstL, Tryst2.Rsp.pred, List.map_cons, List.map_nil, List.take_succ_cons, List.take_zero, List.length_cons, List.length_nil, List.tail_cons, List.toList_toArray] at hR
        obtain ⟨hcg, hfg⟩ := Tryst2.Grow.cells hg
        have hsg := Tryst2.Grow.le hg
        simp only [Tryst2.putAll, Tryst2.dstL, List.map_cons, List.map_nil, List.take_succ_cons, List.take_zero, List.length_cons, List.length_nil, List.toList_toArray, List.drop_succ_cons, List.drop_zero, Act.put, List.setIfInBounds_toArray, List.set_cons_zero, List.set_cons_succ, hR]
        have hbw := Tryst2.Grow.below hg (.refl w1.heap.size w1)
        have HR2 := Lib.hid (HR1.out.grow hbw)
        have HO2 := Lib.hid (HO1.out.trans (Only.ofBelow hgz hbw))
        clear hg hR hcg hfg hsg hbw d0 d1 d2 d3 d4 d5 HR1 HO1
        obtain ⟨d0, d1, d2, d3, d4, d5⟩ := HR2.out
        go_upto_region 7 with fail
        have HR3 : Hid (RAt (w'.setCell ⟨g, 1, none⟩ (.int .i64 ((a1 : Int) + n))) g s (a1 + n) 0) := by
          have := HR2.out.set1 (a' := a1 + n)
          show RAt _ _ _ _ _
          rwa [show ((a1 + n : Nat) : Int) = (a1 : Int) + n by omega] at this
        have HO3 := Lib.hid (HO2.out.set 1 (.int .i64 ((a1 : Int) + n)))
        clear HR2 HO2 d0 d1 d2 d3 d4 d5
        revert HR3 HO3
        generalize w'.setCell ⟨g, 1, none⟩ (.int .i64 ((a1 : Int) + n)) = X
        intro HR3 HO3
        have hgz2 := HR3.out.hz
        obtain ⟨d0, d1, d2, d3, d4, d5⟩ := HR3.out
        rw [show ((a1 + n : Nat) : Int) = (a1 : Int) + n by omega] at d1
        have x2 : (a1 : Int) + n ≤ s.size := by omega
        have x3 : (0 : Int) ≤ a1 := by omega
        have x4 : (a1 : Int) ≤ (a1 : Int) + n := by omega
        have x5 : ((a1 : Int) + n).toNat = a1 + n := by omega
        have x6 : (0 : Int) ≤ (a1 : Int) + n := by omega
        have x7 : IntKind.i64.wrap ((a1 : Int) + n - n) = a1 := by rw [Int.add_sub_cancel]; exact y4
        refine Tryst2.wp_region_grows [.is (.pointer (some ⟨g, 0, none⟩)), .is (.pointer (some ⟨g, 0, none⟩)), .is (.pointer (some ⟨g, 0, none⟩)), .is (.string s), .is (.pointer (some ⟨g, 0, none⟩)), .is (.pointer (some ⟨g, 0, none⟩)), .is (.pointer (some ⟨g, 1, none⟩)), .is (.int .i64 ((a1 : Int) + n)), .is (.int .i64 n), .is (.int .i64 a1), .is (.pointer (some ⟨g, 0, none⟩)), .is (.pointer (some ⟨g, 0, none⟩)), .is (.pointer (some ⟨g, 1, none⟩)), .is (.int .i64 ((a1 : Int) + n)), .is (.string (s.extract a1 (a1 + n))), .is (.string (s.extract a1 (a1 + n)))] (by kernel_rfl) (by kernel_rfl) ?obl ?fin
        case obl =>
          simp only [Tryst2.AllObl, Tryst2.dstL, Tryst2.Obl, Tryst2.depsOf, Tryst2.binds_data, Tryst2.binds_chain, Tryst2.binds_phase, Tryst2.binds_guard, Tryst2.binds_text, Tryst2.binds_gc, Bool.false_eq_true, if_false, List.filterMap_cons_some, List.filterMap_cons_none, Tryst2.depsR, Tryst2.holdR, Tryst2.tmpsOf, Op.operands, Call.operands, Tryst2.Rsp.pred, Tryst2.wantedV_none, if_true, List.map_cons, List.map_nil, List.length_map, List.take_succ_cons, List.take_zero, List.length_cons, List.length_nil, List.getElem?_cons_zero, List.getElem?_cons_succ, Option.bind_some, id, List.getD_cons_zero, List.getD_cons_succ, Tryst2.isDst, List.filterMap_cons, List.filterMap_nil, List.toList_toArray]
          repeat' apply And.intro
          any_goals trivial
          all_goals (intro tv w' hg hold hd; (try simp at hold); obtain ⟨hcg, hfg⟩ := Tryst2.Grow.cells hg; have hsg := Tryst2.Grow.le hg)
          all_goals first | (go_simp; done) | (go_simp; rw [if_neg (by omega)]; exact ⟨.refl _, rfl⟩) | (obtain ⟨⟨g, hvg, hgg, hcell⟩, _⟩ := hd; have hcell0 := hcell 0 (by decide); simp at hcell0; go_simp; done) 
        case fin =>
          intro tv w' hg hR
          simp only [Tryst2.allR, Tryst2.dstL, Tryst2.Rsp.pred, List.map_cons, List.map_nil, List.take_succ_cons, List.take_zero, List.length_cons, List.length_nil, List.tail_cons, List.toList_toArray] at hR
          obtain ⟨hcg, hfg⟩ := Tryst2.Grow.cells hg
          have hsg := Tryst2.Grow.le hg
          simp only [Tryst2.putAll, Tryst2.dstL, List.map_cons, List.map_nil, List.take_succ_cons, List.take_zero, List.length_cons, List.length_nil, List.toList_toArray, List.drop_succ_cons, List.drop_zero, Act.put, List.setIfInBounds_toArray, List.set_cons_zero, List.set_cons_succ, hR]
          have hbw := Tryst2.Grow.below hg (.refl X.heap.size X)
          have HR4 := Lib.hid (HR3.out.grow hbw)
          have HO4 := Lib.hid (HO3.out.trans (Only.ofBelow hgz2 hbw))
          clear hg hR hcg hfg hsg hbw d0 d1 d2 d3 d4 d5
          go_wp2_with fail
          go_ret
          exact ⟨ret_eq (by show Value.string (s.extract a1 (a1 + n)) = _; rw [hcut.out]), HR4.out, HO4.out⟩
  · rw [if_pos h0]
    have e1' : ((e1 : Int) != 0) = true := by simp; omega
    have e2' : ((e1 : Int) == 0) = false := by simp; omega
    go_enter Try.func53, Try.ntmps53
    go_wp2_with fail
    refine (HN.out w HR.out).mono ?_
    rintro x w1 ⟨rfl, hr1, ho1⟩
    have HR1 := Lib.hid hr1
    have HO1 := Lib.hid ho1
    have hgz := hr1.hz
    obtain ⟨d0, d1, d2, d3, d4, d5⟩ := hr1
    clear ho1
    go_wp2_with fail
    refine Tryst2.wp_region_grows [.is (.pointer (some ⟨g, 0, none⟩)), .is (.pointer (some ⟨g, 0, none⟩)), .is (.pointer (some ⟨g, 2, none⟩)), .is (.int .i64 e1), .is (.bool false), .is (.bool false), .is undef, .is undef, .is undef, .is undef, .is undef, .is undef, .is undef, .is undef, .is undef, .is undef, .is undef, .is undef, .is (.bool false)] (by kernel_rfl) (by kernel_rfl) ?obl ?fin
    case obl =>
      simp only [Tryst2.AllObl, Tryst2.dstL, Tryst2.Obl, Tryst2.depsOf, Tryst2.binds_data, Tryst2.binds_chain, Tryst2.binds_phase, Tryst2.binds_guard, Tryst2.binds_text, Tryst2.binds_gc, Bool.false_eq_true, if_false, List.filterMap_cons_some, List.filterMap_cons_none, Tryst2.depsR, Tryst2.holdR, Tryst2.tmpsOf, Op.operands, Call.operands, Tryst2.Rsp.pred, Tryst2.wantedV_none, Tryst2.wantedV_some, if_true, List.map_cons, List.map_nil, List.length_map, List.take_succ_cons, List.take_zero, List.length_cons, List.length_nil, List.getElem?_cons_zero, List.getElem?_cons_succ, Option.bind_some, id, List.getD_cons_zero, List.getD_cons_succ, Tryst2.isDst, List.filterMap_cons, List.filterMap_nil, List.toList_toArray]
      repeat' apply And.intro
      any_goals trivial
      all_goals (intro tv w' hg hold hd; (try simp at hold); obtain ⟨hcg, hfg⟩ := Tryst2.Grow.cells hg; have hsg := Tryst2.Grow.le hg)
      all_goals first | (go_simp; done) | (go_simp; rw [if_neg (by omega)]; exact ⟨.refl _, rfl⟩) | (obtain ⟨⟨g, hvg, hgg, hcell⟩, _⟩ := hd; have hcell0 := hcell 0 (by decide); simp at hcell0; go_simp; done) 
    case fin =>
      intro tv w' hg hR
      simp only [Tryst2.allR, Tryst2.dstL, Tryst2.Rsp.pred, List.map_cons, List.map_nil, List.take_succ_cons, List.take_zero, List.length_cons, List.length_nil, List.tail_cons, List.toList_toArray] at hR
      obtain ⟨hcg, hfg⟩ := Tryst2.Grow.cells hg
      have hsg := Tryst2.Grow.le hg
      simp only [Tryst2.putAll, Tryst2.dstL, List.map_cons, List.map_nil, List.take_succ_cons, List.take_zero, List.length_cons, List.length_nil, List.toList_toArray, List.drop_succ_cons, List.drop_zero, Act.put, List.setIfInBounds_toArray, List.set_cons_zero, List.set_cons_succ, hR]
      have hbw := Tryst2.Grow.below hg (.refl w1.heap.size w1)
      have HR2 := Lib.hid (HR1.out.grow hbw)
      have HO2 := Lib.hid (HO1.out.trans (Only.ofBelow hgz hbw))
      clear hg hR hcg hfg hsg hbw d0 d1 d2 d3 d4 d5
      obtain ⟨d0, d1, d2, d3, d4, d5⟩ := HR2.out
      go_wp2_with fail
      go_ret
      exact ⟨rfl, HR2.out, HO2.out⟩
end Go.Proofs.Ytcbnehplilpidaa
