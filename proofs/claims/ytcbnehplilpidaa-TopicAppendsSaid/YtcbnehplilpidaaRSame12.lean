/- The walks of Same of texts and of topics, of the same ones. -/
import Derived.Test.YtcbnehplilpidaaProg
import Derived.WalkKit
import Derived.WalkSpells
import Derived.WalkLawsBesides
import Derived.Lib.Hide
import Derived.Deep.RegionWith
import Derived.Deep.Cut
import Derived.IntWalk
import Derived.Test.YtcbnehplilpidaaTopO
set_option linter.unusedVariables false
set_option linter.unusedSimpArgs false
namespace Go.Proofs.Ytcbnehplilpidaa
open Go.RowKit Tryst
set_option maxHeartbeats 400000
set_option maxRecDepth 20000
def KRel (X : World) (n : Nat) (i : Value) (wr : World) : Prop := ∃ k : Nat, k ≤ n ∧ i = .int .i64 k ∧ Hid (Below X.heap.size X wr)
/-- the same texts, wherever they lie -/
theorem rsameS_c (a1 a2 : Option Addr) (c1 c2 : Nat) (l : List ByteArray) (hl : l.length ≤ 1000000000) (w : World) (h1 : Strs w a1 l) (h2 : Strs w a2 l) :
    Calls Try.prog 64 #[.slice a1 l.length c1, .slice a2 l.length c2] w fun e w' => e = .returned (.bool true) ∧ Below w.heap.size w w' := by
  have H1 := Lib.hid h1
  have H2 := Lib.hid h2
  clear h1 h2
  go_enter Try.func64, Try.ntmps64
  go_wp2_with fail
  go_loopw [5] (fun i wr => KRel w l.length i wr) (fun i _ => l.length - (intOf i).toNat)
  case atStart => exact ⟨0, by omega, rfl, .refl _ _⟩
  case round =>
    obtain ⟨k, hk, rfl, HW⟩ := hrel
    obtain ⟨wo, rfl⟩ : ∃ wo, wo = wr := ⟨_, rfl⟩
    by_cases hlt : k < l.length
    · have HA := Lib.hid (H1.out.grow HW.out)
      have HB := Lib.hid (H2.out.grow HW.out)
      obtain ⟨b1, o1, ha1, hb1⟩ := HA.out.head hlt
      obtain ⟨b2, o2, ha2, hb2⟩ := HB.out.head hlt
      subst ha1 ha2
      obtain ⟨_, f1⟩ := HA.out.at hlt
      obtain ⟨_, f2⟩ := HB.out.at hlt
      have ne : (l[k].toList != l[k].toList) = false := bne_self_eq_false _
      go_upto_region 6 with fail
      refine Tryst2.wp_region_grows [.is (.slice (some ⟨b1, o1, none⟩) l.length c1), .is (.int .i64 (k : Int)), .is (.pointer (some ⟨b1, o1 + k, none⟩)), .is (.string l[k]), .is (.slice (some ⟨b2, o2, none⟩) l.length c2), .is (.int .i64 (k : Int)), .is (.pointer (some ⟨b2, o2 + k, none⟩)), .is (.string l[k]), .is (.bool false)] (by kernel_rfl) (by kernel_rfl) ?obl ?fin
      case obl =>
        simp only [Tryst2.AllObl, Tryst2.dstL, Tryst2.Obl, Tryst2.depsOf, Tryst2.binds_data, Tryst2.binds_chain, Tryst2.binds_phase, Tryst2.binds_guard, Tryst2.binds_text, Tryst2.binds_gc, Bool.false_eq_true, if_false, List.filterMap_cons_some, List.filterMap_cons_none, Tryst2.depsR, Tryst2.holdR, Tryst2.tmpsOf, Op.operands, Call.operands, Tryst2.Rsp.pred, Tryst2.wantedV_none, Tryst2.wantedV_some, if_true, List.map_cons, List.map_nil, List.length_map, List.take_succ_cons, List.take_zero, List.length_cons, List.length_nil, List.getElem?_cons_zero, List.getElem?_cons_succ, Option.bind_some, id, List.getD_cons_zero, List.getD_cons_succ, Tryst2.isDst, List.filterMap_cons, List.filterMap_nil, List.toList_toArray]
        repeat' apply And.intro
        any_goals trivial
        all_goals (intro tv w' hg hold hd; (try simp at hold); obtain ⟨hcg, hfg⟩ := Tryst2.Grow.cells hg; have hsg := Tryst2.Grow.le hg)
        all_goals first | (go_simp; done) | (go_simp; rw [if_neg (by omega)]; exact ⟨.refl _, rfl⟩) | (obtain ⟨⟨g, hvg, hgg, hcell⟩, _⟩ := hd; have hcell0 := hcell 0 (by decide); simp at hcell0; go_simp; done) 
      case fin =>
        intro tv w' hg hR
        simp only [Tryst2.allR, Tryst2.dstL, Tryst2.Rsp.pred, List.map_cons, List.map_nil, List.take_succ_cons, List.take_zero, List.length_cons, List.length_nil, List.tail_cons, List.toList_toArray] at hR
        obtain ⟨hcg, hfg⟩ := Tryst2.Grow.cells hg
        have hsg := Tryst2.Grow.le hg
        simp only [Tryst2.putAll, Tryst2.dstL, List.map_cons, List.map_nil, List.take_succ_cons, List.take_zero, List.length_cons, List.length_nil, List.toList_toArray, List.drop_succ_cons, List.drop_zero, Act.put, List.setIfInBounds_toArray, List.set_cons_zero, List.set_cons_succ, hR]
        have HW9 := Lib.hid (Tryst2.Grow.below hg HW.out)
        clear hg hR hcg hfg hsg
        go_wp2_with fail
        go_roundw
        case rel => exact ⟨k + 1, by omega, by go_num, HW9⟩
        case measure => simp [intOf] <;> omega
    · go_wp2_with fail
      go_ret
      exact ⟨rfl, HW.out⟩
/-- the same topics, wherever they lie -/
theorem rsame12_c (a1 a2 : Option Addr) (c1 c2 : Nat) (l1 l2 : List TB) (h : l1.map TB.tp = l2.map TB.tp) (hl : l1.length ≤ 1000000000) (hll : ∀ t ∈ l1, t.log.length ≤ 1000000000) (w : World) (h1 : TopsA w a1 l1) (h2 : TopsA w a2 l2) :
    Calls Try.prog 29 #[.slice a1 l1.length c1, .slice a2 l2.length c2] w fun e w' => e = .returned (.bool true) ∧ Below w.heap.size w w' := by
  have hlen : l2.length = l1.length := by have := congrArg List.length h; simpa using this.symm
  have H1 := Lib.hid h1
  have H2 := Lib.hid h2
  have HH := Lib.hid h
  have HLL := Lib.hid hll
  rw [hlen]
  have HL := Lib.hid hlen
  clear h1 h2 h hlen hll
  go_enter Try.func29, Try.ntmps29
  go_wp2_with fail
  go_loopw [5] (fun i wr => KRel w l1.length i wr) (fun i _ => l1.length - (intOf i).toNat)
  case atStart => exact ⟨0, by omega, rfl, .refl _ _⟩
  case round =>
    obtain ⟨k, hk, rfl, HW⟩ := hrel
    obtain ⟨wo, rfl⟩ : ∃ wo, wo = wr := ⟨_, rfl⟩
    by_cases hlt : k < l1.length
    · have hlt2 : k < l2.length := by rw [HL.out]; exact hlt
      have HA := Lib.hid (H1.out.grow HW.out)
      have HB := Lib.hid (H2.out.grow HW.out)
      obtain ⟨b1, o1, ha1, hb1⟩ := HA.out.head hlt
      obtain ⟨b2, o2, ha2, hb2⟩ := HB.out.head hlt2
      obtain rfl : a1 = some ⟨b1, o1, none⟩ := ha1
      obtain rfl : a2 = some ⟨b2, o2, none⟩ := ha2
      obtain ⟨_, ⟨f0, f1, f2⟩, hS1⟩ := HA.out.at hlt
      obtain ⟨_, ⟨g0, g1, g2⟩, hS2⟩ := HB.out.at hlt2
      have htp : l2[k].tp = l1[k].tp := by
        have e : (l1.map TB.tp)[k]'(by simpa using hlt) = (l2.map TB.tp)[k]'(by simpa using hlt2) := by simp only [HH.out]
        simpa using e.symm
      have e0 : l2[k].name = l1[k].name := congrArg Tp.name htp
      have e1 : l2[k].first = l1[k].first := congrArg Tp.first htp
      have e2 : l2[k].log = l1[k].log := congrArg Tp.log htp
      rw [e0] at g0
      rw [e1] at g1
      rw [e2] at g2 hS2
      have HS1 := Lib.hid hS1
      have HS2 := Lib.hid hS2
      have hlg := HLL.out l1[k] (List.getElem_mem hlt)
      have HSS := Lib.hid (fun (W : World) (q1 : Strs W l1[k].la l1[k].log) (q2 : Strs W l2[k].la l1[k].log) => rsameS_c l1[k].la l2[k].la l1[k].lc l2[k].lc l1[k].log hlg W q1 q2)
      have ne : (l1[k].name.toList != l1[k].name.toList) = false := bne_self_eq_false _
      generalize l2[k].la = la2 at g2 HS2 HSS
      generalize l2[k].lc = lc2 at g2 HSS
      have hb2' : (k : Int) < l1.length := by omega
      clear htp e0 e1 e2 hS1 hS2 hlg
      go_upto_region 6 with fail
      refine Tryst2.wp_region_grows [.is (.slice (some ⟨b1, o1, none⟩) l1.length c1), .is (.int .i64 (k : Int)), .is (.pointer (some ⟨b1, o1 + k * 3, none⟩)), .is (.pointer (some ⟨b1, o1 + k * 3, none⟩)), .is (.string l1[k].name), .is (.slice (some ⟨b2, o2, none⟩) l1.length c2), .is (.int .i64 (k : Int)), .is (.pointer (some ⟨b2, o2 + k * 3, none⟩)), .is (.pointer (some ⟨b2, o2 + k * 3, none⟩)), .is (.string l1[k].name), .is (.bool false), .is (.bool false), .is (.slice (some ⟨b1, o1, none⟩) l1.length c1), .is (.int .i64 (k : Int)), .is (.pointer (some ⟨b1, o1 + k * 3, none⟩)), .is (.pointer (some ⟨b1, o1 + k * 3 + 1, none⟩)), .is (.int .i64 l1[k].first), .is (.slice (some ⟨b2, o2, none⟩) l1.length c2), .is (.int .i64 (k : Int)), .is (.pointer (some ⟨b2, o2 + k * 3, none⟩)), .is (.pointer (some ⟨b2, o2 + k * 3 + 1, none⟩)), .is (.int .i64 l1[k].first), .is (.bool false), .is (.bool false), .is (.bool false), .is (.slice (some ⟨b1, o1, none⟩) l1.length c1), .is (.int .i64 (k : Int)), .is (.pointer (some ⟨b1, o1 + k * 3, none⟩)), .is (.pointer (some ⟨b1, o1 + k * 3 + 2, none⟩)), .is (.slice l1[k].la l1[k].log.length l1[k].lc), .is (.slice (some ⟨b2, o2, none⟩) l1.length c2), .is (.int .i64 (k : Int)), .is (.pointer (some ⟨b2, o2 + k * 3, none⟩)), .is (.pointer (some ⟨b2, o2 + k * 3 + 2, none⟩)), .is (.slice la2 l1[k].log.length lc2), .is (.bool true), .is (.bool false), .is (.bool false)] (by kernel_rfl) (by kernel_rfl) ?obl ?fin
      case obl =>
        simp only [Tryst2.AllObl, Tryst2.dstL, Tryst2.Obl, Tryst2.depsOf, Tryst2.binds_data, Tryst2.binds_chain, Tryst2.binds_phase, Tryst2.binds_guard, Tryst2.binds_text, Tryst2.binds_gc, Bool.false_eq_true, if_false, List.filterMap_cons_some, List.filterMap_cons_none, Tryst2.depsR, Tryst2.holdR, Tryst2.tmpsOf, Op.operands, Call.operands, Tryst2.Rsp.pred, Tryst2.wantedV_none, Tryst2.wantedV_some, if_true, List.map_cons, List.map_nil, List.length_map, List.take_succ_cons, List.take_zero, List.length_cons, List.length_nil, List.getElem?_cons_zero, List.getElem?_cons_succ, Option.bind_some, id, List.getD_cons_zero, List.getD_cons_succ, Tryst2.isDst, List.filterMap_cons, List.filterMap_nil, List.toList_toArray]
        repeat' apply And.intro
        any_goals trivial
        all_goals (intro tv w' hg hold hd; (try simp at hold); obtain ⟨hcg, hfg⟩ := Tryst2.Grow.cells hg; have hsg := Tryst2.Grow.le hg)
        all_goals first | (go_simp; done) | (go_simp; rw [if_neg (by omega)]; exact ⟨.refl _, rfl⟩) | (obtain ⟨⟨g, hvg, hgg, hcell⟩, _⟩ := hd; have hcell0 := hcell 0 (by decide); simp at hcell0; go_simp; done) | (go_simp; go_at_call 64; (with_reducible refine (HSS.out _ ?_ ?_).mono ?_); (exact HS1.out.grow (Tryst2.Grow.below hg (.refl wo.heap.size wo))); (exact HS2.out.grow (Tryst2.Grow.below hg (.refl wo.heap.size wo))); rintro e w5 ⟨rfl, hb5⟩; exact ⟨hb5, rfl⟩)
      case fin =>
        intro tv w' hg hR
        simp only [Tryst2.allR, Tryst2.dstL, Tryst2.Rsp.pred, List.map_cons, List.map_nil, List.take_succ_cons, List.take_zero, List.length_cons, List.length_nil, List.tail_cons, List.toList_toArray] at hR
        obtain ⟨hcg, hfg⟩ := Tryst2.Grow.cells hg
        have hsg := Tryst2.Grow.le hg
        simp only [Tryst2.putAll, Tryst2.dstL, List.map_cons, List.map_nil, List.take_succ_cons, List.take_zero, List.length_cons, List.length_nil, List.toList_toArray, List.drop_succ_cons, List.drop_zero, Act.put, List.setIfInBounds_toArray, List.set_cons_zero, List.set_cons_succ, hR]
        have HW9 := Lib.hid (Tryst2.Grow.below hg HW.out)
        clear hg hR hcg hfg hsg
        go_wp2_with fail
        go_roundw
        case rel => exact ⟨k + 1, by omega, by go_num, HW9⟩
        case measure => simp [intOf] <;> omega
    · go_wp2_with fail
      go_ret
      exact ⟨rfl, HW.out⟩
end Go.Proofs.Ytcbnehplilpidaa
