/- pred.Holds: May, then the asker -/
import Derived.Test.YtmmdblpoecidaaaDoorProg
import Derived.WalkKit
import Derived.WalkSpells
import Derived.WalkLawsBesides
import Derived.Lib.Hide
import Derived.Deep.RegionWith
import Derived.Deep.Cut
import Derived.IntWalk
import Derived.Test.YtmmdblpoecidaaaDoorAsk5
set_option linter.unusedVariables false
set_option linter.unusedSimpArgs false
namespace Go.Proofs.YtmmdblpoecidaaaDoor
open Go.RowKit Tryst
set_option maxHeartbeats 2000000
set_option maxRecDepth 20000
/-- the event's box -/
structure EBox (w : World) (b : Nat) (t p : ByteArray) (q : Int) (u : Value) : Prop where
  c0 : w.cell? ⟨b, 0, none⟩ = some (.string t)
  c1 : w.cell? ⟨b, 1, none⟩ = some (.string p)
  c2 : w.cell? ⟨b, 2, none⟩ = some (.int .u64 q)
  c3 : w.cell? ⟨b, 3, none⟩ = some u
  hz : b < w.heap.size
theorem EBox.new (w : World) (t p : ByteArray) (q : Int) (u : Value) (T : TypeId) : EBox (w.alloc (.cells #[.string t, .string p, .int .u64 q, u] T)) w.heap.size t p q u := by
  constructor <;> simp [go_sem]
/-- a predicate is asked of an event, if it may be -/
theorem holdsG_c (x : PB) (t p : ByteArray) (q : Int) (ea : Option Addr) (elen ec : Nat) (X : Bool) (w : World) (hM : MaxW w) (hP : PMem w x)
    (hH : ∀ W g mb, Below w.heap.size w W → AskAt W g mb t p q (.slice ea elen ec) → Calls Tryd.prog 28 #[.pointer (some ⟨g, 0, none⟩), x.agg] W fun e w' => e = .returned (.bool X) ∧ Below W.heap.size W w') :
    Calls Tryd.prog 12 #[x.agg, .agg #[.string t, .string p, .int .u64 q, .slice ea elen ec]] w fun e w' => e = .returned (.bool (mayP x.pr && X)) ∧ Below w.heap.size w w' := by
  have HMY := Lib.hid (fun W (hb : Below w.heap.size w W) => may5_c x W (hM.grow hb) (hP.grow hb))
  have HH := Lib.hid hH
  have HA := Lib.hid (fun W => ask_c t p q ea elen ec W)
  obtain ⟨y, hy⟩ : ∃ y, mayP x.pr = y := ⟨_, rfl⟩
  rw [hy] at HMY ⊢
  clear hy hM hP hH
  obtain ⟨op, s, num, n, vs, a, c, l⟩ := x
  unfold PB.agg at HMY HH ⊢
  simp only [PB.op, PB.s, PB.num, PB.n, PB.vs, PB.a, PB.c, PB.l] at HMY HH ⊢
  go_enter Tryd.func12, Tryd.ntmps12
  go_upto_region 1 with fail
  refine wp_genC (fun v => Hid (PBox v w.heap.size op s num n vs (.slice a l.length c)) ∧ Hid (Below w.heap.size w v) ∧ Hid (EBox v (w.heap.size + 1) t p q (.slice ea elen ec))) ⟨(PBox.new w op s num n vs (.slice a l.length c) 26).grow (balloc _ (.refl _ _)), balloc _ (balloc _ (.refl _ _)), ?_⟩ ?_
  · have h := EBox.new (w.alloc (.cells #[.string op, .string s, .bool num, .int .i64 n, .string vs, .slice a l.length c] 26)) t p q (.slice ea elen ec) 30
    exact Lib.hid (by simpa using h)
  rintro Y ⟨HX, HB, HE⟩
  generalize w.heap.size + 1 = B2 at HE ⊢
  obtain ⟨B, hB⟩ : ∃ B, w.heap.size = B := ⟨_, rfl⟩
  rw [hB] at HX ⊢
  obtain ⟨x0, x1, x2, x3, x4, x5, x6⟩ := HX.out
  obtain ⟨z0, z1, z2, z3, z4⟩ := HE.out
  cases y with
  | false =>
    refine Tryst2.wp_region_grows [.is (.agg #[.string op, .string s, .bool num, .int .i64 n, .string vs, .slice a l.length c]), .is (.bool false), .is (.bool false), .is undef, .is undef, .is undef, .is undef, .is (.bool false), .is (.bool false)] (by kernel_rfl) (by kernel_rfl) ?obl ?fin
    case obl =>
      simp only [Tryst2.AllObl, Tryst2.dstL, Tryst2.Obl, Tryst2.depsOf, Tryst2.binds_data, Tryst2.binds_chain, Tryst2.binds_phase, Tryst2.binds_guard, Tryst2.binds_text, Tryst2.binds_gc, Bool.false_eq_true, if_false, List.filterMap_cons_some, List.filterMap_cons_none, Tryst2.depsR, Tryst2.holdR, Tryst2.tmpsOf, Op.operands, Call.operands, Tryst2.Rsp.pred, Tryst2.wantedV_none, Tryst2.wantedV_some, if_true, List.map_cons, List.map_nil, List.length_map, List.take_succ_cons, List.take_zero, List.length_cons, List.length_nil, List.getElem?_cons_zero, List.getElem?_cons_succ, Option.bind_some, id, List.getD_cons_zero, List.getD_cons_succ, Tryst2.isDst, List.filterMap_cons, List.filterMap_nil, List.toList_toArray]
      repeat' apply And.intro
      any_goals trivial
      all_goals (intro tv w' hg hold hd; (try simp at hold); obtain ⟨hcg, hfg⟩ := Tryst2.Grow.cells hg; have hsg := Tryst2.Grow.le hg)
      all_goals first | (go_simp; done) | (go_simp; rw [if_neg (by omega)]; exact ⟨.refl _, rfl⟩) | (obtain ⟨⟨g, hvg, hgg, hcell⟩, _⟩ := hd; have hcell0 := hcell 0 (by decide); simp at hcell0; go_simp; done) | (go_simp; refine (HMY.out _ (bstep (Tryst2.Grow.below hg (.refl Y.heap.size Y)) HB.out)).mono ?_; rintro e w2 ⟨rfl, hb2⟩; exact ⟨hb2, rfl⟩)
    case fin =>
      intro tv w' hg hR
      simp only [Tryst2.allR, Tryst2.dstL, Tryst2.Rsp.pred, List.map_cons, List.map_nil, List.take_succ_cons, List.take_zero, List.length_cons, List.length_nil, List.tail_cons, List.toList_toArray] at hR
      obtain ⟨hcg, hfg⟩ := Tryst2.Grow.cells hg
      have hsg := Tryst2.Grow.le hg
      simp only [Tryst2.putAll, Tryst2.dstL, List.map_cons, List.map_nil, List.take_succ_cons, List.take_zero, List.length_cons, List.length_nil, List.toList_toArray, List.drop_succ_cons, List.drop_zero, Act.put, List.setIfInBounds_toArray, List.set_cons_zero, List.set_cons_succ, hR]
      have HB9 := Lib.hid (bstep (Tryst2.Grow.below hg (.refl Y.heap.size Y)) HB.out)
      clear hg hR hcg hfg hsg
      go_wp2_with fail
      go_ret
      exact ⟨rfl, HB9.out⟩
  | true =>
    refine Tryst2.wp_region_grows [.is (.agg #[.string op, .string s, .bool num, .int .i64 n, .string vs, .slice a l.length c]), .is (.bool true), .is (.bool true), .is (.agg #[.string t, .string p, .int .u64 q, .slice ea elen ec]), .any (fun v w0 => ∃ g mb, v = .pointer (some ⟨g, 0, none⟩) ∧ AskAt w0 g mb t p q (.slice ea elen ec)), .is (.agg #[.string op, .string s, .bool num, .int .i64 n, .string vs, .slice a l.length c]), .is (.bool X), .is (.bool X), .is (.bool X)] (by kernel_rfl) (by kernel_rfl) ?obl ?fin
    case obl =>
      simp only [Tryst2.AllObl, Tryst2.dstL, Tryst2.Obl, Tryst2.depsOf, Tryst2.binds_data, Tryst2.binds_chain, Tryst2.binds_phase, Tryst2.binds_guard, Tryst2.binds_text, Tryst2.binds_gc, Bool.false_eq_true, if_false, List.filterMap_cons_some, List.filterMap_cons_none, Tryst2.depsR, Tryst2.holdR, Tryst2.tmpsOf, Op.operands, Call.operands, Tryst2.Rsp.pred, Tryst2.wantedV_none, Tryst2.wantedV_some, if_true, List.map_cons, List.map_nil, List.length_map, List.take_succ_cons, List.take_zero, List.length_cons, List.length_nil, List.getElem?_cons_zero, List.getElem?_cons_succ, Option.bind_some, id, List.getD_cons_zero, List.getD_cons_succ, Tryst2.isDst, List.filterMap_cons, List.filterMap_nil, List.toList_toArray]
      repeat' apply And.intro
      any_goals trivial
      all_goals (intro tv w' hg hold hd; (try simp at hold); obtain ⟨hcg, hfg⟩ := Tryst2.Grow.cells hg; have hsg := Tryst2.Grow.le hg)
      all_goals first | (go_simp; done) | (go_simp; rw [if_neg (by omega)]; exact ⟨.refl _, rfl⟩) | (obtain ⟨⟨g, hvg, hgg, hcell⟩, _⟩ := hd; have hcell0 := hcell 0 (by decide); simp at hcell0; go_simp; done) | (go_simp; refine (HMY.out _ (bstep (Tryst2.Grow.below hg (.refl Y.heap.size Y)) HB.out)).mono ?_; rintro e w2 ⟨rfl, hb2⟩; exact ⟨hb2, rfl⟩) | (obtain ⟨⟨w0, hgw, g, mb, h9, hA⟩, h10, h7⟩ := hd; obtain ⟨h7, _⟩ := h7; go_simp; refine (HH.out w' g mb (bstep (Tryst2.Grow.below hg (.refl Y.heap.size Y)) HB.out) (hA.grow hgw)).mono ?_; rintro e w2 ⟨rfl, hb2⟩; exact ⟨hb2, rfl⟩) | (obtain ⟨h8, h7, _⟩ := hd; simp only [h7]; go_simp; refine (HA.out w').mono ?_; rintro e w2 ⟨g, mb, rfl, hA, hb2⟩; exact ⟨hb2, _, Below.refl _ _, g, rfl, mb, hA⟩)
    case fin =>
      intro tv w' hg hR
      simp only [Tryst2.allR, Tryst2.dstL, Tryst2.Rsp.pred, List.map_cons, List.map_nil, List.take_succ_cons, List.take_zero, List.length_cons, List.length_nil, List.tail_cons, List.toList_toArray] at hR
      obtain ⟨hcg, hfg⟩ := Tryst2.Grow.cells hg
      have hsg := Tryst2.Grow.le hg
      simp only [Tryst2.putAll, Tryst2.dstL, List.map_cons, List.map_nil, List.take_succ_cons, List.take_zero, List.length_cons, List.length_nil, List.toList_toArray, List.drop_succ_cons, List.drop_zero, Act.put, List.setIfInBounds_toArray, List.set_cons_zero, List.set_cons_succ, hR]
      have HB9 := Lib.hid (bstep (Tryst2.Grow.below hg (.refl Y.heap.size Y)) HB.out)
      clear hg hR hcg hfg hsg
      go_wp2_with fail
      go_ret
      exact ⟨rfl, HB9.out⟩
end Go.Proofs.YtmmdblpoecidaaaDoor
