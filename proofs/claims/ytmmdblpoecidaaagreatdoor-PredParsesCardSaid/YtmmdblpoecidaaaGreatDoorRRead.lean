/- The walk of the document s way to read a value. -/
import Derived.Test.YtmmdblpoecidaaaGreatDoorProg
import Derived.WalkKit
import Derived.WalkSpells
import Derived.WalkLawsBesides
import Derived.Lib.Hide
import Derived.Deep.RegionWith
import Derived.Deep.Cut
import Derived.Test.YtmmdblpoecidaaaGreatDoorVal6
import Derived.Test.YtmmdblpoecidaaaGreatDoorVal7
import Derived.Test.YtmmdblpoecidaaaGreatDoorDraws
import Derived.Test.YtmmdblpoecidaaaGreatDoorFacts
set_option linter.unusedVariables false
set_option linter.unusedSimpArgs false
namespace Tryst
open Go Go.RowKit
/-- a box of a value's three cells -/
structure Box (v : World) (b : Nat) (x : Bool) (n : Int) (s : ByteArray) : Prop where
  c0 : v.cell? ⟨b, 0, none⟩ = some (.bool x)
  c1 : v.cell? ⟨b, 1, none⟩ = some (.int .i64 n)
  c2 : v.cell? ⟨b, 2, none⟩ = some (.string s)
  f0 : v.frozen? ⟨b, 0, none⟩ = false
  f1 : v.frozen? ⟨b, 1, none⟩ = false
  f2 : v.frozen? ⟨b, 2, none⟩ = false
theorem Box.new (v : World) (T : TypeId) (x : Bool) (n : Int) (s : ByteArray) : Box (v.alloc (.cells #[.bool x, .int .i64 n, .string s] T)) v.heap.size x n s := by
  refine ⟨?_, ?_, ?_, ?_, ?_, ?_⟩ <;> simp [go_sem]
theorem Box.grow {v w : World} {b : Nat} {x : Bool} {n : Int} {s : ByteArray} (h : Box v b x n s) (hb : b < v.heap.size) (hw : Below v.heap.size v w) : Box w b x n s := by
  obtain ⟨h1, h2, h3, h4, h5, h6⟩ := h
  refine ⟨?_, ?_, ?_, ?_, ?_, ?_⟩
  · rw [hw.cell (p := ⟨b, 0, none⟩) hb]; assumption
  · rw [hw.cell (p := ⟨b, 1, none⟩) hb]; assumption
  · rw [hw.cell (p := ⟨b, 2, none⟩) hb]; assumption
  · rw [hw.frozen (p := ⟨b, 0, none⟩) hb]; assumption
  · rw [hw.frozen (p := ⟨b, 1, none⟩) hb]; assumption
  · rw [hw.frozen (p := ⟨b, 2, none⟩) hb]; assumption
theorem Box.set {v : World} {b : Nat} {x y : Bool} {n m : Int} {s t : ByteArray} (h : Box v b x n s) : Box (((v.setCell ⟨b, 0, none⟩ (.bool y)).setCell ⟨b, 1, none⟩ (.int .i64 m)).setCell ⟨b, 2, none⟩ (.string t)) b y m t := by
  obtain ⟨h1, h2, h3, h4, h5, h6⟩ := h
  refine ⟨?_, ?_, ?_, ?_, ?_, ?_⟩ <;> simp [cell_setCell, frozen_setCell, h1, h2, h3, h4, h5, h6]
theorem Box.set2 {v : World} {b : Nat} {x : Bool} {n : Int} {s t : ByteArray} (h : Box v b x n s) : Box (v.setCell ⟨b, 2, none⟩ (.string t)) b x n t := by
  obtain ⟨h1, h2, h3, h4, h5, h6⟩ := h
  refine ⟨?_, ?_, ?_, ?_, ?_, ?_⟩ <;> simp [cell_setCell, frozen_setCell, h1, h2, h3, h4, h5, h6]
theorem Box.other2 {v : World} {b c : Nat} {x : Bool} {n : Int} {s : ByteArray} {t : Value} (h : Box v b x n s) (hn : c ≠ b) : Box (v.setCell ⟨c, 2, none⟩ t) b x n s := by
  obtain ⟨h1, h2, h3, h4, h5, h6⟩ := h
  refine ⟨?_, ?_, ?_, ?_, ?_, ?_⟩ <;> simp [cell_setCell, frozen_setCell, hn, h1, h2, h3, h4, h5, h6]
theorem Box.other {v : World} {b c : Nat} {x : Bool} {n : Int} {s : ByteArray} {y : Value} {m : Value} {t : Value} (h : Box v b x n s) (hn : c ≠ b) : Box (((v.setCell ⟨c, 0, none⟩ y).setCell ⟨c, 1, none⟩ m).setCell ⟨c, 2, none⟩ t) b x n s := by
  obtain ⟨h1, h2, h3, h4, h5, h6⟩ := h
  refine ⟨?_, ?_, ?_, ?_, ?_, ?_⟩ <;> simp [cell_setCell, frozen_setCell, hn, h1, h2, h3, h4, h5, h6]
end Tryst
namespace Go.Proofs.YtmmdblpoecidaaaGreatDoor
open Go.RowKit Tryst
set_option maxHeartbeats 400000
set_option maxRecDepth 20000
theorem one_take {s : ByteArray} {j : Nat} (h : j < s.size) : (s.data.toList.take (j + 1)).drop j = [s[j]] := by
  rw [← sub_str, one_str s j h]
def InRel (s : ByteArray) (k : Nat) (m i : Value) : Prop := ∃ (j : Nat) (M : Int), j ≤ k ∧ m = .int .i64 M ∧ i = .int .i64 j ∧ -9223372036854775808 ≤ M ∧ M ≤ 9223372036854775807 ∧ Hid (MRel s.data.toList j M)
def OutRel (s : ByteArray) (w : World) (n f k : Value) (wr : World) : Prop := ∃ (k' n' : Nat) (f' : Bool) (z : Int), 1 ≤ k' ∧ k' ≤ s.size + 1 ∧ k' ≤ 21 ∧ n' ≤ 20 ∧ k = .int .i64 k' ∧ n = .int .i64 n' ∧ f = .bool f' ∧ Hid (Best s.data.toList k' f' n' z) ∧ Hid (Box wr w.heap.size false 0 ⟨#[]⟩) ∧ Hid (Box wr (w.heap.size + 1) f' z ⟨#[]⟩) ∧ w.heap.size + 1 < wr.heap.size ∧ Hid (Below w.heap.size w wr)
def TxRel (s : ByteArray) (w : World) (B : Nat) (i : Value) (wr : World) : Prop := ∃ (j : Nat) (t : ByteArray), j ≤ s.size + 1 ∧ i = .int .i64 j ∧ t.size ≤ j ∧ Hid (RRel s.data.toList j t.data.toList) ∧ Hid (Box wr w.heap.size false 0 ⟨#[]⟩) ∧ Hid (Box wr B false 0 t) ∧ B < wr.heap.size ∧ Hid (Below w.heap.size w wr)
set_option maxHeartbeats 40000000 in
theorem rread_c (s : ByteArray) (hs : s.size ≤ 1000000) (w : World) :
    Calls Tryz.prog 59 #[.string s] w fun e w' => e = .returned (.tuple #[.agg #[.bool (readV s.data.toList).1.num, .int .i64 (readV s.data.toList).1.n, .string ⟨(readV s.data.toList).1.s.toArray⟩], .int .i64 (readV s.data.toList).2, .bool (decide ((readV s.data.toList).2 ≠ 0))]) ∧ Below w.heap.size w w' := by
  go_enter Tryz.func59, Tryz.ntmps59
  go_wp2_with fail
  go_loopw [6, 7, 8] (fun n f k wr => OutRel s w n f k wr) (fun _ _ k _ => s.size + 1 - (intOf k).toNat)
  case atStart =>
    refine ⟨1, 0, false, 0, by omega, by omega, by omega, by omega, rfl, rfl, rfl, Best.start _, ?_, ?_, by simp, ?_⟩
    · exact (Box.new w 23 false 0 ⟨#[]⟩).grow (by simp) (balloc _ (.refl _ _))
    · have := Box.new (w.alloc (.cells #[.bool false, .int .i64 0, .string ⟨#[]⟩] 23)) 23 false 0 ⟨#[]⟩
      exact Lib.hid (by simpa using this)
    · exact balloc _ (balloc _ (.refl _ _))
  case round =>
    obtain ⟨k, n, f, z, k1, k2, k3, n1, rfl, rfl, rfl, HB, B0, B1, hz, HW⟩ := hrel
    obtain ⟨wo, rfl⟩ : ∃ wo, wo = wr := ⟨_, rfl⟩
    by_cases hk : k ≤ s.size ∧ k ≤ 20
    · obtain ⟨hk1, hk2⟩ := hk
      have hp : 0 < s.size := by omega
      go_wp2_with fail
      go_loop [9, 10] (fun m i => InRel s k m i) (fun _ i => k - (intOf i).toNat)
      case atStart => exact ⟨0, 0, by omega, rfl, rfl, by omega, by omega, MRel.start _⟩
      case round =>
        obtain ⟨j, M, hj, rfl, rfl, m0, m1, HM⟩ := hrel
        by_cases hjk : j < k
        · have hjs : j < s.size := by omega
          have hjl : j < s.data.toList.length := by simpa using hjs
          obtain ⟨c, hc⟩ : ∃ c, s[j].toNat = c := ⟨_, rfl⟩
          have hcl : c < 256 := hc ▸ s[j].toNat_lt
          have es : s.data.toList[j] = s[j] := rfl
          by_cases hd : 48 ≤ c ∧ c ≤ 57
          · have hst := HM.out.step hjl (by rw [es]; unfold isDig; rw [hc]; simpa using hd)
            rw [es, hc] at hst
            obtain ⟨M', hM'⟩ : ∃ M', wrap64 (wrap64 (10 * M) - ((c : Int) - 48)) = M' := ⟨_, rfl⟩
            rw [hM'] at hst
            have b0 := hst.1.1
            have b1 := hst.1.2
            have HS := Lib.hid hst
            have HE := Lib.hid hM'
            obtain ⟨d1, d2⟩ := hd
            clear hst hM' HM
            go_wp2_with fail
            go_round
            case rel => exact ⟨j + 1, M', by omega, by rw [← HE.out], by go_num, b0, b1, HS.out⟩
            case measure => simp [intOf] <;> omega
          · have hst := HM.out.skip hjl (by rw [es]; unfold isDig; rw [hc]; simpa using hd)
            have HS := Lib.hid hst
            clear hst HM
            by_cases h48 : 48 ≤ c
            · have h57 : ¬ c ≤ 57 := by omega
              clear hd
              go_wp2_with fail
              go_round
              case rel => exact ⟨j + 1, M, by omega, rfl, by go_num, m0, m1, HS.out⟩
              case measure => simp [intOf] <;> omega
            · clear hd
              go_wp2_with fail
              go_round
              case rel => exact ⟨j + 1, M, by omega, rfl, by go_num, m0, m1, HS.out⟩
              case measure => simp [intOf] <;> omega
        · obtain rfl : j = k := by omega
          obtain ⟨c0, hc0⟩ : ∃ c, s[0].toNat = c := ⟨_, rfl⟩
          have hcl : c0 < 256 := hc0 ▸ s[0].toNat_lt
          have hhd : s.data.toList.head? = some s[0] := by
            rw [List.head?_eq_getElem?, List.getElem?_eq_getElem (by simpa using hp)]; rfl
          have hZ : signed s.data.toList M = if c0 = 45 then M else wrap64 (-M) := by
            unfold signed
            rw [hhd, ← hc0]
            by_cases h : s[0] = 45
            · rw [if_pos (by rw [h]), if_pos (by rw [h]; rfl)]
            · rw [if_neg (by simpa using h), if_neg (fun e => h (UInt8.toNat.inj (by rw [e]; rfl)))]
          have hin := signed_in HM.out
          obtain ⟨Z, hZZ⟩ : ∃ Z, signed s.data.toList M = Z := ⟨_, rfl⟩
          rw [hZZ] at hZ hin
          obtain ⟨z0, z1⟩ := hin
          have hD := rdigits_c Z z0 z1
          obtain ⟨D, hDD⟩ : ∃ D : ByteArray, ⟨(Lib.itoa Z).toArray⟩ = D := ⟨_, rfl⟩
          rw [hDD] at hD
          have HD := Lib.hid hD
          clear hD
          by_cases hN : NumAt s.data.toList j Z
          · have hB2 := HB.out.yes hN
            have e1 : (D.toList == (s.extract 0 j).toList) = true := strEq (by rw [← hDD, mk_str, ← hN.2.2.2, sub_str]; simp)
            have HB2 := Lib.hid hB2
            clear hB2 hN hDD hZZ hhd HM HB
            by_cases h45 : c0 = 45
            · rw [if_pos h45] at hZ
              subst hZ
              have e2 : ((c0 : Int) != 45) = false := by rw [h45]; rfl
              clear h45
              go_wp2_with fail
              skip
              refine Tryst2.wp_region_grows [.is (.int .i64 Z), .is (.string D), .is (.string s), .is (.int .i64 j), .is (.string (s.extract 0 j)), .is (.bool true)] (by kernel_rfl) (by kernel_rfl) ?obl ?fin
              case obl =>
                simp only [Tryst2.AllObl, Tryst2.dstL, Tryst2.Obl, Tryst2.depsOf, Tryst2.binds_data, Tryst2.binds_chain, Tryst2.binds_phase, Tryst2.binds_guard, Tryst2.binds_text, Tryst2.binds_gc, Bool.false_eq_true, if_false, List.filterMap_cons_some, List.filterMap_cons_none, Tryst2.depsR, Tryst2.holdR, Tryst2.tmpsOf, Op.operands, Call.operands, Tryst2.Rsp.pred, Tryst2.wantedV_none, if_true, List.map_cons, List.map_nil, List.length_map, List.take_succ_cons, List.take_zero, List.length_cons, List.length_nil, List.getElem?_cons_zero, List.getElem?_cons_succ, Option.bind_some, id, List.getD_cons_zero, List.getD_cons_succ, Tryst2.isDst, List.filterMap_cons, List.filterMap_nil, List.toList_toArray]
                repeat' apply And.intro
                any_goals trivial
                all_goals (intro tv w' hg hold hd; (try simp at hold); obtain ⟨hcg, hfg⟩ := Tryst2.Grow.cells hg; have hsg := Tryst2.Grow.le hg)
                all_goals first | (go_simp; done) | (go_simp; rw [if_neg (by omega)]; exact ⟨.refl _, rfl⟩) | (obtain ⟨⟨g, hvg, hgg, hcell⟩, _⟩ := hd; have hcell0 := hcell 0 (by decide); simp at hcell0; go_simp; done) | (go_simp; refine (HD.out _).mono ?_; rintro e w2 ⟨rfl, hb2⟩; exact ⟨hb2, rfl⟩)
              case fin =>
                intro tv w' hg hR
                simp only [Tryst2.allR, Tryst2.dstL, Tryst2.Rsp.pred, List.map_cons, List.map_nil, List.take_succ_cons, List.take_zero, List.length_cons, List.length_nil, List.tail_cons, List.toList_toArray] at hR
                obtain ⟨hcg, hfg⟩ := Tryst2.Grow.cells hg
                have hsg := Tryst2.Grow.le hg
                simp only [Tryst2.putAll, Tryst2.dstL, List.map_cons, List.map_nil, List.take_succ_cons, List.take_zero, List.length_cons, List.length_nil, List.toList_toArray, List.drop_succ_cons, List.drop_zero, Act.put, List.setIfInBounds_toArray, List.set_cons_zero, List.set_cons_succ, hR]
                have hbw : Below wo.heap.size wo w' := by have := Tryst2.Grow.below hg (Below.refl _ _); exact this
                have hz' : w.heap.size + 1 < w'.heap.size := by omega
                have B0' := Lib.hid (B0.out.grow (by omega) hbw)
                have b1' := B1.out.grow (by omega) hbw
                have B1' := Lib.hid b1'
                obtain ⟨a0, a1, a2, a3, a4, a5⟩ := b1'
                have HW' := Lib.hid (HW.out.trans (hbw.mono HW.out.size))
                clear hg hR hcg hfg hsg B0 B1 hbw
                go_wp2_with fail
                go_roundw
                case rel => exact ⟨j + 1, j, true, Z, by omega, by omega, by omega, by omega, by go_num, rfl, rfl, HB2.out, B0'.out.other (by omega), B1'.out.set, by simpa using hz', bset _ (by simp) (bset _ (by simp) (bset _ (by simp) HW'.out))⟩
                case measure => simp [intOf] <;> omega
            · rw [if_neg h45] at hZ
              have HZ := Lib.hid hZ
              have e2 : ((c0 : Int) != 45) = true := by simp; omega
              clear h45 hZ
              go_wp2_with fail
              rw [← HZ.out]
              refine Tryst2.wp_region_grows [.is (.int .i64 Z), .is (.string D), .is (.string s), .is (.int .i64 j), .is (.string (s.extract 0 j)), .is (.bool true)] (by kernel_rfl) (by kernel_rfl) ?obl ?fin
              case obl =>
                simp only [Tryst2.AllObl, Tryst2.dstL, Tryst2.Obl, Tryst2.depsOf, Tryst2.binds_data, Tryst2.binds_chain, Tryst2.binds_phase, Tryst2.binds_guard, Tryst2.binds_text, Tryst2.binds_gc, Bool.false_eq_true, if_false, List.filterMap_cons_some, List.filterMap_cons_none, Tryst2.depsR, Tryst2.holdR, Tryst2.tmpsOf, Op.operands, Call.operands, Tryst2.Rsp.pred, Tryst2.wantedV_none, if_true, List.map_cons, List.map_nil, List.length_map, List.take_succ_cons, List.take_zero, List.length_cons, List.length_nil, List.getElem?_cons_zero, List.getElem?_cons_succ, Option.bind_some, id, List.getD_cons_zero, List.getD_cons_succ, Tryst2.isDst, List.filterMap_cons, List.filterMap_nil, List.toList_toArray]
                repeat' apply And.intro
                any_goals trivial
                all_goals (intro tv w' hg hold hd; (try simp at hold); obtain ⟨hcg, hfg⟩ := Tryst2.Grow.cells hg; have hsg := Tryst2.Grow.le hg)
                all_goals first | (go_simp; done) | (go_simp; rw [if_neg (by omega)]; exact ⟨.refl _, rfl⟩) | (obtain ⟨⟨g, hvg, hgg, hcell⟩, _⟩ := hd; have hcell0 := hcell 0 (by decide); simp at hcell0; go_simp; done) | (go_simp; refine (HD.out _).mono ?_; rintro e w2 ⟨rfl, hb2⟩; exact ⟨hb2, rfl⟩)
              case fin =>
                intro tv w' hg hR
                simp only [Tryst2.allR, Tryst2.dstL, Tryst2.Rsp.pred, List.map_cons, List.map_nil, List.take_succ_cons, List.take_zero, List.length_cons, List.length_nil, List.tail_cons, List.toList_toArray] at hR
                obtain ⟨hcg, hfg⟩ := Tryst2.Grow.cells hg
                have hsg := Tryst2.Grow.le hg
                simp only [Tryst2.putAll, Tryst2.dstL, List.map_cons, List.map_nil, List.take_succ_cons, List.take_zero, List.length_cons, List.length_nil, List.toList_toArray, List.drop_succ_cons, List.drop_zero, Act.put, List.setIfInBounds_toArray, List.set_cons_zero, List.set_cons_succ, hR]
                have hbw : Below wo.heap.size wo w' := by have := Tryst2.Grow.below hg (Below.refl _ _); exact this
                have hz' : w.heap.size + 1 < w'.heap.size := by omega
                have B0' := Lib.hid (B0.out.grow (by omega) hbw)
                have b1' := B1.out.grow (by omega) hbw
                have B1' := Lib.hid b1'
                obtain ⟨a0, a1, a2, a3, a4, a5⟩ := b1'
                have HW' := Lib.hid (HW.out.trans (hbw.mono HW.out.size))
                clear hg hR hcg hfg hsg B0 B1 hbw
                go_wp2_with fail
                go_roundw
                case rel => exact ⟨j + 1, j, true, Z, by omega, by omega, by omega, by omega, by go_num, rfl, rfl, HB2.out, B0'.out.other (by omega), B1'.out.set, by simpa using hz', bset _ (by simp) (bset _ (by simp) (bset _ (by simp) HW'.out))⟩
                case measure => simp [intOf] <;> omega
          · have hB2 := HB.out.no (fun z h => hN (by have := h.signed HM.out; rw [hZZ] at this; rw [← this]; exact h))
            have e1 : (D.toList == (s.extract 0 j).toList) = false := strNe (by
              rw [← hDD, mk_str, sub_str]
              intro e
              exact hN ⟨k1, by simpa using hk1, ⟨z0, z1⟩, by rw [e]; simp⟩)
            have HB2 := Lib.hid hB2
            clear hB2 hN hDD hZZ hhd HM HB
            by_cases h45 : c0 = 45
            · rw [if_pos h45] at hZ
              subst hZ
              have e2 : ((c0 : Int) != 45) = false := by rw [h45]; rfl
              clear h45
              go_wp2_with fail
              skip
              refine Tryst2.wp_region_grows [.is (.int .i64 Z), .is (.string D), .is (.string s), .is (.int .i64 j), .is (.string (s.extract 0 j)), .is (.bool false)] (by kernel_rfl) (by kernel_rfl) ?obl ?fin
              case obl =>
                simp only [Tryst2.AllObl, Tryst2.dstL, Tryst2.Obl, Tryst2.depsOf, Tryst2.binds_data, Tryst2.binds_chain, Tryst2.binds_phase, Tryst2.binds_guard, Tryst2.binds_text, Tryst2.binds_gc, Bool.false_eq_true, if_false, List.filterMap_cons_some, List.filterMap_cons_none, Tryst2.depsR, Tryst2.holdR, Tryst2.tmpsOf, Op.operands, Call.operands, Tryst2.Rsp.pred, Tryst2.wantedV_none, if_true, List.map_cons, List.map_nil, List.length_map, List.take_succ_cons, List.take_zero, List.length_cons, List.length_nil, List.getElem?_cons_zero, List.getElem?_cons_succ, Option.bind_some, id, List.getD_cons_zero, List.getD_cons_succ, Tryst2.isDst, List.filterMap_cons, List.filterMap_nil, List.toList_toArray]
                repeat' apply And.intro
                any_goals trivial
                all_goals (intro tv w' hg hold hd; (try simp at hold); obtain ⟨hcg, hfg⟩ := Tryst2.Grow.cells hg; have hsg := Tryst2.Grow.le hg)
                all_goals first | (go_simp; done) | (go_simp; rw [if_neg (by omega)]; exact ⟨.refl _, rfl⟩) | (obtain ⟨⟨g, hvg, hgg, hcell⟩, _⟩ := hd; have hcell0 := hcell 0 (by decide); simp at hcell0; go_simp; done) | (go_simp; refine (HD.out _).mono ?_; rintro e w2 ⟨rfl, hb2⟩; exact ⟨hb2, rfl⟩)
              case fin =>
                intro tv w' hg hR
                simp only [Tryst2.allR, Tryst2.dstL, Tryst2.Rsp.pred, List.map_cons, List.map_nil, List.take_succ_cons, List.take_zero, List.length_cons, List.length_nil, List.tail_cons, List.toList_toArray] at hR
                obtain ⟨hcg, hfg⟩ := Tryst2.Grow.cells hg
                have hsg := Tryst2.Grow.le hg
                simp only [Tryst2.putAll, Tryst2.dstL, List.map_cons, List.map_nil, List.take_succ_cons, List.take_zero, List.length_cons, List.length_nil, List.toList_toArray, List.drop_succ_cons, List.drop_zero, Act.put, List.setIfInBounds_toArray, List.set_cons_zero, List.set_cons_succ, hR]
                have hbw : Below wo.heap.size wo w' := by have := Tryst2.Grow.below hg (Below.refl _ _); exact this
                have hz' : w.heap.size + 1 < w'.heap.size := by omega
                have B0' := Lib.hid (B0.out.grow (by omega) hbw)
                have b1' := B1.out.grow (by omega) hbw
                have B1' := Lib.hid b1'
                obtain ⟨a0, a1, a2, a3, a4, a5⟩ := b1'
                have HW' := Lib.hid (HW.out.trans (hbw.mono HW.out.size))
                clear hg hR hcg hfg hsg B0 B1 hbw
                go_wp2_with fail
                go_roundw
                case rel => exact ⟨j + 1, n, f, z, by omega, by omega, by omega, n1, by go_num, rfl, rfl, HB2.out, B0'.out, B1'.out, hz', HW'.out⟩
                case measure => simp [intOf] <;> omega
            · rw [if_neg h45] at hZ
              have HZ := Lib.hid hZ
              have e2 : ((c0 : Int) != 45) = true := by simp; omega
              clear h45 hZ
              go_wp2_with fail
              rw [← HZ.out]
              refine Tryst2.wp_region_grows [.is (.int .i64 Z), .is (.string D), .is (.string s), .is (.int .i64 j), .is (.string (s.extract 0 j)), .is (.bool false)] (by kernel_rfl) (by kernel_rfl) ?obl ?fin
              case obl =>
                simp only [Tryst2.AllObl, Tryst2.dstL, Tryst2.Obl, Tryst2.depsOf, Tryst2.binds_data, Tryst2.binds_chain, Tryst2.binds_phase, Tryst2.binds_guard, Tryst2.binds_text, Tryst2.binds_gc, Bool.false_eq_true, if_false, List.filterMap_cons_some, List.filterMap_cons_none, Tryst2.depsR, Tryst2.holdR, Tryst2.tmpsOf, Op.operands, Call.operands, Tryst2.Rsp.pred, Tryst2.wantedV_none, if_true, List.map_cons, List.map_nil, List.length_map, List.take_succ_cons, List.take_zero, List.length_cons, List.length_nil, List.getElem?_cons_zero, List.getElem?_cons_succ, Option.bind_some, id, List.getD_cons_zero, List.getD_cons_succ, Tryst2.isDst, List.filterMap_cons, List.filterMap_nil, List.toList_toArray]
                repeat' apply And.intro
                any_goals trivial
                all_goals (intro tv w' hg hold hd; (try simp at hold); obtain ⟨hcg, hfg⟩ := Tryst2.Grow.cells hg; have hsg := Tryst2.Grow.le hg)
                all_goals first | (go_simp; done) | (go_simp; rw [if_neg (by omega)]; exact ⟨.refl _, rfl⟩) | (obtain ⟨⟨g, hvg, hgg, hcell⟩, _⟩ := hd; have hcell0 := hcell 0 (by decide); simp at hcell0; go_simp; done) | (go_simp; refine (HD.out _).mono ?_; rintro e w2 ⟨rfl, hb2⟩; exact ⟨hb2, rfl⟩)
              case fin =>
                intro tv w' hg hR
                simp only [Tryst2.allR, Tryst2.dstL, Tryst2.Rsp.pred, List.map_cons, List.map_nil, List.take_succ_cons, List.take_zero, List.length_cons, List.length_nil, List.tail_cons, List.toList_toArray] at hR
                obtain ⟨hcg, hfg⟩ := Tryst2.Grow.cells hg
                have hsg := Tryst2.Grow.le hg
                simp only [Tryst2.putAll, Tryst2.dstL, List.map_cons, List.map_nil, List.take_succ_cons, List.take_zero, List.length_cons, List.length_nil, List.toList_toArray, List.drop_succ_cons, List.drop_zero, Act.put, List.setIfInBounds_toArray, List.set_cons_zero, List.set_cons_succ, hR]
                have hbw : Below wo.heap.size wo w' := by have := Tryst2.Grow.below hg (Below.refl _ _); exact this
                have hz' : w.heap.size + 1 < w'.heap.size := by omega
                have B0' := Lib.hid (B0.out.grow (by omega) hbw)
                have b1' := B1.out.grow (by omega) hbw
                have B1' := Lib.hid b1'
                obtain ⟨a0, a1, a2, a3, a4, a5⟩ := b1'
                have HW' := Lib.hid (HW.out.trans (hbw.mono HW.out.size))
                clear hg hR hcg hfg hsg B0 B1 hbw
                go_wp2_with fail
                go_roundw
                case rel => exact ⟨j + 1, n, f, z, by omega, by omega, by omega, n1, by go_num, rfl, rfl, HB2.out, B0'.out, B1'.out, hz', HW'.out⟩
                case measure => simp [intOf] <;> omega
    · have hke : s.data.toList.length < k ∨ 20 < k := by rw [len_str]; omega
      have hsp : s.size = 0 ∨ 0 < s.size := by omega
      have B1' := B1.out
      have B0' := B0.out
      obtain ⟨a0, a1, a2, a3, a4, a5⟩ := B1'
      obtain ⟨b0, b1, b2, b3, b4, b5⟩ := B0'
      cases f with
      | true =>
        have HR := Lib.hid (HB.out.found hke)
        clear hke HB
        by_cases hks : k ≤ s.size
        all_goals
          go_wp2_with fail
          exact bodyPost_ret (v := .tuple #[.agg #[.bool true, .int .i64 z, .string ⟨#[]⟩], .int .i64 n, .bool true]) (by simp [results, Tryz.results59, go_sem, *]) rfl ⟨ret_eq (by rw [HR.out.1]; simp [HR.out.2]), bset _ (by simp) (bset _ (by simp) (bset _ (by simp) HW.out))⟩
      | false =>
        obtain ⟨rfl, rfl, hbj⟩ := HB.out
        clear hbj
        rcases hsp with hs0 | hp
        · have HR := Lib.hid (HB.out.none hke (by rw [(str_nil_iff s).2 hs0]; simp))
          have e0 : s.toList = [] := by rw [str_toList]; exact (str_nil_iff s).2 hs0
          clear hke HB
          have hks : ¬ k ≤ s.size := by omega
          go_wp2_with fail
          exact bodyPost_ret (v := .tuple #[.agg #[.bool false, .int .i64 0, .string ⟨#[]⟩], .int .i64 0, .bool false]) (by simp [results, Tryz.results59, go_sem, *]) rfl ⟨ret_eq (by rw [HR.out]; simp [V.zero]), bset _ (by simp) (bset _ (by simp) (bset _ (by simp) HW.out))⟩
        · obtain ⟨c0, hc0⟩ : ∃ c, s[0].toNat = c := ⟨_, rfl⟩
          have hcl : c0 < 256 := hc0 ▸ s[0].toNat_lt
          have hhd : s.data.toList.head? = some s[0] := by
            rw [List.head?_eq_getElem?, List.getElem?_eq_getElem (by simpa using hp)]; rfl
          have e0 : s.toList.isEmpty = false := by rw [str_toList]; cases h : s.data.toList with | nil => exact absurd ((str_nil_iff s).1 h) (by omega) | cons c r => rfl
          have e00 : (s.toList == []) = false := by rw [str_toList]; cases h : s.data.toList with | nil => exact absurd ((str_nil_iff s).1 h) (by omega) | cons c r => rfl
          by_cases h34 : c0 = 34
          · have hq : s.data.toList.head? = some 34 := by rw [hhd]; congr 1; exact UInt8.toNat.inj (by rw [hc0, h34]; rfl)
            have e2 : ((c0 : Int) != 34) = false := by rw [h34]; rfl
            have HQ := Lib.hid hq
            clear hke HB h34 hq hhd
            by_cases hks : k ≤ s.size
            all_goals
              go_wp2_with fail
              obtain ⟨B, hB⟩ : ∃ B, wo.heap.size = B := ⟨_, rfl⟩
              rw [hB]
              have hwB : w.heap.size + 1 < B := by omega
              go_loopw [12] (fun i wr => TxRel s w B i wr) (fun i _ => s.size + 2 - (intOf i).toNat)
              case atStart =>
                refine ⟨1, ⟨#[]⟩, by omega, rfl, by decide, RRel.start _, B0.out.grow (by omega) (balloc _ (.refl _ _)), ?_, ?_, balloc _ HW.out⟩
                · rw [← hB]; exact Box.new _ _ _ _ _
                · simp; omega
              case round =>
                obtain ⟨j, t, hj, rfl, htj, HR, C0, C1, hzB, HW2⟩ := hrel
                obtain ⟨wq, rfl⟩ : ∃ wq, wq = wr := ⟨_, rfl⟩
                clear B0 B1 a0 a1 a2 a3 a4 a5 b0 b1 b2 b3 b4 b5 HW
                obtain ⟨d0, d1, d2, d3, d4, d5⟩ := C0.out
                obtain ⟨g0, g1, g2, g3, g4, g5⟩ := C1.out
                by_cases hjs : j < s.size
                · have hjl : j < s.data.toList.length := by simpa using hjs
                  obtain ⟨c, hc⟩ : ∃ c, s[j].toNat = c := ⟨_, rfl⟩
                  have hcl2 : c < 256 := hc ▸ s[j].toNat_lt
                  have es : s.data.toList[j] = s[j] := rfl
                  by_cases hc34 : c = 34
                  · have f1 : ((c : Int) != 34) = false := by rw [hc34]; rfl
                    have e34 : s.data.toList[j] = 34 := by rw [es]; exact UInt8.toNat.inj (by rw [hc, hc34]; rfl)
                    obtain ⟨hd1, hd2⟩ := HR.out.done hjl e34 HQ.out
                    have hW := @rwrite_c false 0 t (by omega) (by omega) (by omega)
                    obtain ⟨W, hWW⟩ : ∃ W : ByteArray, ⟨(V.write ⟨false, 0, t.data.toList⟩).toArray⟩ = W := ⟨_, rfl⟩
                    rw [hWW] at hW
                    have HWr := Lib.hid hW
                    have x1 : IntKind.i64.wrap ((j : Int) + 1) = (j : Int) + 1 := IntWalk.i64_in _ (by omega)
                    have x2 : (0 : Int) ≤ (j : Int) + 1 := by omega
                    have x3 : (j : Int) + 1 ≤ s.size := by omega
                    have x7 : ¬ (s.size : Int) ≤ j := by omega
                    clear hW hc34 e34
                    have hext : (s.extract 0 (j + 1)).data.toList = s.data.toList.take (j + 1) := by rw [sub_str]; simp
                    have hwt : W.data.toList = wr t.data.toList := by rw [← hWW, mk_str]; rfl
                    by_cases h60 : 60 < t.size
                    · have HF := Lib.hid (hd2 (fun h => by have := h.1; simp at this; omega))
                      clear hd1 hd2 hext hwt hWW
                      go_wp2_with fail
                      refine Tryst2.wp_region_grows [.is (.int .i64 j), .is (.string s), .is (.int .i64 s.size), .is (.bool false), .is (.bool false), .is (.pointer (some ⟨B, 2, none⟩)), .is (.string t), .is (.int .i64 t.size), .is (.bool true), .is (.bool true), .is (.bool true), .is undef, .is undef, .is undef, .is undef, .is undef, .is undef, .is undef, .is (.bool true)] (by kernel_rfl) (by kernel_rfl) ?obl ?fin
                      case obl =>
                        simp only [Tryst2.AllObl, Tryst2.dstL, Tryst2.Obl, Tryst2.depsOf, Tryst2.binds_data, Tryst2.binds_chain, Tryst2.binds_phase, Tryst2.binds_guard, Tryst2.binds_text, Tryst2.binds_gc, Bool.false_eq_true, if_false, List.filterMap_cons_some, List.filterMap_cons_none, Tryst2.depsR, Tryst2.holdR, Tryst2.tmpsOf, Op.operands, Call.operands, Tryst2.Rsp.pred, Tryst2.wantedV_none, Tryst2.wantedV_some, if_true, List.map_cons, List.map_nil, List.length_map, List.take_succ_cons, List.take_zero, List.length_cons, List.length_nil, List.getElem?_cons_zero, List.getElem?_cons_succ, Option.bind_some, id, List.getD_cons_zero, List.getD_cons_succ, Tryst2.isDst, List.filterMap_cons, List.filterMap_nil, List.toList_toArray]
                        repeat' apply And.intro
                        any_goals trivial
                        all_goals (intro tv w' hg hold hd; (try simp at hold); obtain ⟨hcg, hfg⟩ := Tryst2.Grow.cells hg; have hsg := Tryst2.Grow.le hg)
                        all_goals first | (go_simp; done) | (go_simp; rw [if_neg (by omega)]; exact ⟨.refl _, rfl⟩) | (obtain ⟨⟨g, hvg, hgg, hcell⟩, _⟩ := hd; have hcell0 := hcell 0 (by decide); simp at hcell0; go_simp; done) | (go_simp; omega)
                      case fin =>
                        intro tv w' hg hR
                        simp only [Tryst2.allR, Tryst2.dstL, Tryst2.Rsp.pred, List.map_cons, List.map_nil, List.take_succ_cons, List.take_zero, List.length_cons, List.length_nil, List.tail_cons, List.toList_toArray] at hR
                        obtain ⟨hcg, hfg⟩ := Tryst2.Grow.cells hg
                        have hsg := Tryst2.Grow.le hg
                        simp only [Tryst2.putAll, Tryst2.dstL, List.map_cons, List.map_nil, List.take_succ_cons, List.take_zero, List.length_cons, List.length_nil, List.toList_toArray, List.drop_succ_cons, List.drop_zero, Act.put, List.setIfInBounds_toArray, List.set_cons_zero, List.set_cons_succ, hR]
                        have hbw : Below wq.heap.size wq w' := by have := Tryst2.Grow.below hg (Below.refl _ _); exact this
                        have q0 := C0.out.grow (by omega) hbw
                        have q1 := C1.out.grow (by omega) hbw
                        have HW3 := Lib.hid (HW2.out.trans (hbw.mono HW2.out.size))
                        obtain ⟨p0, p1, p2, p3, p4, p5⟩ := q1
                        obtain ⟨r0, r1, r2, r3, r4, r5⟩ := q0
                        clear hg hR hcg hfg hsg C0 C1 hbw d0 d1 d2 d3 d4 d5 g0 g1 g2 g3 g4 g5 HW2 hk hks k1 k2 k3 n1
                        go_wp2_with fail
                        exact bodyPost_ret (v := .tuple #[.agg #[.bool false, .int .i64 0, .string ⟨#[]⟩], .int .i64 0, .bool false]) (by simp [results, Tryz.results59, go_sem, *]) rfl ⟨ret_eq (by rw [HF.out]; simp [V.zero]), bset _ (by simp) (bset _ (by simp) (bset _ (by simp) HW3.out))⟩
                    · by_cases hew : wr t.data.toList = s.data.toList.take (j + 1)
                      · have HF := Lib.hid (hd1 ⟨by simp; omega, hew⟩)
                        have f3 : (W.toList == (s.extract 0 (j + 1)).toList) = true := strEq (by rw [hwt, hext, hew])
                        have f4 : (W.toList != (s.extract 0 (j + 1)).toList) = false := by rw [bne, f3]; rfl
                        clear hd1 hd2 hext hwt hew hWW
                        go_wp2_with fail
                        refine Tryst2.wp_region_grows [.is (.int .i64 j), .is (.string s), .is (.int .i64 s.size), .is (.bool false), .is (.bool false), .is (.pointer (some ⟨B, 2, none⟩)), .is (.string t), .is (.int .i64 t.size), .is (.bool false), .is (.bool false), .is (.bool false), .is (.agg #[.bool false, .int .i64 0, .string t]), .is (.string W), .is (.string s), .is (.int .i64 j), .is (.int .i64 ((j : Int) + 1)), .is (.string (s.extract 0 (j + 1))), .is (.bool false), .is (.bool false)] (by kernel_rfl) (by kernel_rfl) ?obl ?fin
                        case obl =>
                          simp only [Tryst2.AllObl, Tryst2.dstL, Tryst2.Obl, Tryst2.depsOf, Tryst2.binds_data, Tryst2.binds_chain, Tryst2.binds_phase, Tryst2.binds_guard, Tryst2.binds_text, Tryst2.binds_gc, Bool.false_eq_true, if_false, List.filterMap_cons_some, List.filterMap_cons_none, Tryst2.depsR, Tryst2.holdR, Tryst2.tmpsOf, Op.operands, Call.operands, Tryst2.Rsp.pred, Tryst2.wantedV_none, Tryst2.wantedV_some, if_true, List.map_cons, List.map_nil, List.length_map, List.take_succ_cons, List.take_zero, List.length_cons, List.length_nil, List.getElem?_cons_zero, List.getElem?_cons_succ, Option.bind_some, id, List.getD_cons_zero, List.getD_cons_succ, Tryst2.isDst, List.filterMap_cons, List.filterMap_nil, List.toList_toArray]
                          repeat' apply And.intro
                          any_goals trivial
                          all_goals (intro tv w' hg hold hd; (try simp at hold); obtain ⟨hcg, hfg⟩ := Tryst2.Grow.cells hg; have hsg := Tryst2.Grow.le hg)
                          all_goals first | (go_simp; done) | (go_simp; rw [if_neg (by omega)]; exact ⟨.refl _, rfl⟩) | (obtain ⟨⟨g, hvg, hgg, hcell⟩, _⟩ := hd; have hcell0 := hcell 0 (by decide); simp at hcell0; go_simp; done) | (go_simp; refine (HWr.out _).mono ?_; rintro e w2 ⟨rfl, hb2⟩; exact ⟨hb2, rfl⟩) | (go_simp; omega)
                        case fin =>
                          intro tv w' hg hR
                          simp only [Tryst2.allR, Tryst2.dstL, Tryst2.Rsp.pred, List.map_cons, List.map_nil, List.take_succ_cons, List.take_zero, List.length_cons, List.length_nil, List.tail_cons, List.toList_toArray] at hR
                          obtain ⟨hcg, hfg⟩ := Tryst2.Grow.cells hg
                          have hsg := Tryst2.Grow.le hg
                          simp only [Tryst2.putAll, Tryst2.dstL, List.map_cons, List.map_nil, List.take_succ_cons, List.take_zero, List.length_cons, List.length_nil, List.toList_toArray, List.drop_succ_cons, List.drop_zero, Act.put, List.setIfInBounds_toArray, List.set_cons_zero, List.set_cons_succ, hR]
                          have hbw : Below wq.heap.size wq w' := by have := Tryst2.Grow.below hg (Below.refl _ _); exact this
                          have q0 := C0.out.grow (by omega) hbw
                          have q1 := C1.out.grow (by omega) hbw
                          have HW3 := Lib.hid (HW2.out.trans (hbw.mono HW2.out.size))
                          obtain ⟨p0, p1, p2, p3, p4, p5⟩ := q1
                          obtain ⟨r0, r1, r2, r3, r4, r5⟩ := q0
                          clear hg hR hcg hfg hsg C0 C1 hbw d0 d1 d2 d3 d4 d5 g0 g1 g2 g3 g4 g5 HW2 hk hks k1 k2 k3 n1
                          go_wp2_with fail
                          exact bodyPost_ret (v := .tuple #[.agg #[.bool false, .int .i64 0, .string t], .int .i64 (j + 1 : Nat), .bool true]) (by simp [results, Tryz.results59, go_sem, *]) rfl ⟨ret_eq (by rw [HF.out]; simp), bset _ (by simp) (bset _ (by simp) (bset _ (by simp) HW3.out))⟩
                      · have HF := Lib.hid (hd2 (fun h => hew h.2))
                        have f3 : (W.toList == (s.extract 0 (j + 1)).toList) = false := strNe (by rw [hwt, hext]; exact hew)
                        have f4 : (W.toList != (s.extract 0 (j + 1)).toList) = true := by rw [bne, f3]; rfl
                        clear hd1 hd2 hext hwt hew hWW
                        go_wp2_with fail
                        refine Tryst2.wp_region_grows [.is (.int .i64 j), .is (.string s), .is (.int .i64 s.size), .is (.bool false), .is (.bool false), .is (.pointer (some ⟨B, 2, none⟩)), .is (.string t), .is (.int .i64 t.size), .is (.bool false), .is (.bool false), .is (.bool false), .is (.agg #[.bool false, .int .i64 0, .string t]), .is (.string W), .is (.string s), .is (.int .i64 j), .is (.int .i64 ((j : Int) + 1)), .is (.string (s.extract 0 (j + 1))), .is (.bool true), .is (.bool true)] (by kernel_rfl) (by kernel_rfl) ?obl ?fin
                        case obl =>
                          simp only [Tryst2.AllObl, Tryst2.dstL, Tryst2.Obl, Tryst2.depsOf, Tryst2.binds_data, Tryst2.binds_chain, Tryst2.binds_phase, Tryst2.binds_guard, Tryst2.binds_text, Tryst2.binds_gc, Bool.false_eq_true, if_false, List.filterMap_cons_some, List.filterMap_cons_none, Tryst2.depsR, Tryst2.holdR, Tryst2.tmpsOf, Op.operands, Call.operands, Tryst2.Rsp.pred, Tryst2.wantedV_none, Tryst2.wantedV_some, if_true, List.map_cons, List.map_nil, List.length_map, List.take_succ_cons, List.take_zero, List.length_cons, List.length_nil, List.getElem?_cons_zero, List.getElem?_cons_succ, Option.bind_some, id, List.getD_cons_zero, List.getD_cons_succ, Tryst2.isDst, List.filterMap_cons, List.filterMap_nil, List.toList_toArray]
                          repeat' apply And.intro
                          any_goals trivial
                          all_goals (intro tv w' hg hold hd; (try simp at hold); obtain ⟨hcg, hfg⟩ := Tryst2.Grow.cells hg; have hsg := Tryst2.Grow.le hg)
                          all_goals first | (go_simp; done) | (go_simp; rw [if_neg (by omega)]; exact ⟨.refl _, rfl⟩) | (obtain ⟨⟨g, hvg, hgg, hcell⟩, _⟩ := hd; have hcell0 := hcell 0 (by decide); simp at hcell0; go_simp; done) | (go_simp; refine (HWr.out _).mono ?_; rintro e w2 ⟨rfl, hb2⟩; exact ⟨hb2, rfl⟩) | (go_simp; omega)
                        case fin =>
                          intro tv w' hg hR
                          simp only [Tryst2.allR, Tryst2.dstL, Tryst2.Rsp.pred, List.map_cons, List.map_nil, List.take_succ_cons, List.take_zero, List.length_cons, List.length_nil, List.tail_cons, List.toList_toArray] at hR
                          obtain ⟨hcg, hfg⟩ := Tryst2.Grow.cells hg
                          have hsg := Tryst2.Grow.le hg
                          simp only [Tryst2.putAll, Tryst2.dstL, List.map_cons, List.map_nil, List.take_succ_cons, List.take_zero, List.length_cons, List.length_nil, List.toList_toArray, List.drop_succ_cons, List.drop_zero, Act.put, List.setIfInBounds_toArray, List.set_cons_zero, List.set_cons_succ, hR]
                          have hbw : Below wq.heap.size wq w' := by have := Tryst2.Grow.below hg (Below.refl _ _); exact this
                          have q0 := C0.out.grow (by omega) hbw
                          have q1 := C1.out.grow (by omega) hbw
                          have HW3 := Lib.hid (HW2.out.trans (hbw.mono HW2.out.size))
                          obtain ⟨p0, p1, p2, p3, p4, p5⟩ := q1
                          obtain ⟨r0, r1, r2, r3, r4, r5⟩ := q0
                          clear hg hR hcg hfg hsg C0 C1 hbw d0 d1 d2 d3 d4 d5 g0 g1 g2 g3 g4 g5 HW2 hk hks k1 k2 k3 n1
                          go_wp2_with fail
                          exact bodyPost_ret (v := .tuple #[.agg #[.bool false, .int .i64 0, .string ⟨#[]⟩], .int .i64 0, .bool false]) (by simp [results, Tryz.results59, go_sem, *]) rfl ⟨ret_eq (by rw [HF.out]; simp [V.zero]), bset _ (by simp) (bset _ (by simp) (bset _ (by simp) HW3.out))⟩
                  · have f1 : ((c : Int) != 34) = true := by simp; omega
                    have n34 : s.data.toList[j] ≠ 34 := by rw [es]; intro e; exact hc34 (by rw [← hc, e]; rfl)
                    by_cases hc92 : c = 92
                    · have f2 : ((c : Int) == 92) = true := by rw [hc92]; rfl
                      have e92 : s.data.toList[j] = 92 := by rw [es]; exact UInt8.toNat.inj (by rw [hc, hc92]; rfl)
                      by_cases hj1 : j + 1 < s.size
                      · have hst := HR.out.esc (by simpa using hj1) e92
                        have HS := Lib.hid hst
                        clear hst HR n34 e92 hc92 hc34
                        go_wp2_with fail
                        have x1 : IntKind.i64.wrap ((j : Int) + 1 + 1) = (j : Int) + 1 + 1 := IntWalk.i64_in _ (by omega)
                        have x2 : (0 : Int) ≤ (j : Int) + 1 + 1 := by omega
                        have x3 : (j : Int) + 1 + 1 ≤ s.size := by omega
                        have x4 : ((j : Int) + 1 + 1).toNat = j + 1 + 1 := by omega
                        have x5 : (0 : Int) ≤ (j : Int) + 1 := by omega
                        have x6 : (j : Int) ≤ (j : Int) + 1 := by omega
                        refine Tryst2.wp_region_grows [.is (.pointer (some ⟨B, 2, none⟩)), .is (.string t), .is (.string s), .is (.int .i64 ((j : Int) + 1)), .is (.int .i64 ((j : Int) + 1)), .is (.int .i64 ((j : Int) + 1 + 1)), .is (.string (s.extract (j + 1) (j + 1 + 1))), .is (.string (t ++ s.extract (j + 1) (j + 1 + 1))), .is (.pointer (some ⟨B, 2, none⟩))] (by kernel_rfl) (by kernel_rfl) ?obl ?fin
                        case obl =>
                          simp only [Tryst2.AllObl, Tryst2.dstL, Tryst2.Obl, Tryst2.depsOf, Tryst2.binds_data, Tryst2.binds_chain, Tryst2.binds_phase, Tryst2.binds_guard, Tryst2.binds_text, Tryst2.binds_gc, Bool.false_eq_true, if_false, List.filterMap_cons_some, List.filterMap_cons_none, Tryst2.depsR, Tryst2.holdR, Tryst2.tmpsOf, Op.operands, Call.operands, Tryst2.Rsp.pred, Tryst2.wantedV_none, if_true, List.map_cons, List.map_nil, List.length_map, List.take_succ_cons, List.take_zero, List.length_cons, List.length_nil, List.getElem?_cons_zero, List.getElem?_cons_succ, Option.bind_some, id, List.getD_cons_zero, List.getD_cons_succ, Tryst2.isDst, List.filterMap_cons, List.filterMap_nil, List.toList_toArray]
                          repeat' apply And.intro
                          any_goals trivial
                          all_goals (intro tv w' hg hold hd; (try simp at hold); obtain ⟨hcg, hfg⟩ := Tryst2.Grow.cells hg; have hsg := Tryst2.Grow.le hg)
                          all_goals first | (go_simp; done) | (go_simp; rw [if_neg (by omega)]; exact ⟨.refl _, rfl⟩) | (obtain ⟨⟨g, hvg, hgg, hcell⟩, _⟩ := hd; have hcell0 := hcell 0 (by decide); simp at hcell0; go_simp; done) | (go_simp; omega)
                        case fin =>
                          intro tv w' hg hR
                          simp only [Tryst2.allR, Tryst2.dstL, Tryst2.Rsp.pred, List.map_cons, List.map_nil, List.take_succ_cons, List.take_zero, List.length_cons, List.length_nil, List.tail_cons, List.toList_toArray] at hR
                          obtain ⟨hcg, hfg⟩ := Tryst2.Grow.cells hg
                          have hsg := Tryst2.Grow.le hg
                          simp only [Tryst2.putAll, Tryst2.dstL, List.map_cons, List.map_nil, List.take_succ_cons, List.take_zero, List.length_cons, List.length_nil, List.toList_toArray, List.drop_succ_cons, List.drop_zero, Act.put, List.setIfInBounds_toArray, List.set_cons_zero, List.set_cons_succ, hR]
                          clear x1 x2 x3 x4 x5 x6
                          have hbw : Below wq.heap.size wq w' := by have := Tryst2.Grow.below hg (Below.refl _ _); exact this
                          have q0 := C0.out.grow (by omega) hbw
                          have q1 := C1.out.grow (by omega) hbw
                          have C0' := Lib.hid (q0.other2 (t := .string (t ++ s.extract ((j + 1)) ((j + 1) + 1))) (by omega : B ≠ w.heap.size))
                          have C1' := Lib.hid (q1.set2 (t := t ++ s.extract ((j + 1)) ((j + 1) + 1)))
                          have hzB' : B < (w'.setCell ⟨B, 2, none⟩ (.string (t ++ s.extract ((j + 1)) ((j + 1) + 1)))).heap.size := by simp; omega
                          have HW3 := Lib.hid (bset (p := ⟨B, 2, none⟩) (.string (t ++ s.extract ((j + 1)) ((j + 1) + 1))) (by simp; omega) (HW2.out.trans (hbw.mono HW2.out.size)))
                          obtain ⟨p0, p1, p2, p3, p4, p5⟩ := q1
                          clear hg hR hcg hfg hsg C0 C1 hbw q0 d0 d1 d2 d3 d4 d5 g0 g1 g2 g3 g4 g5 HW2 hzB
                          go_wp2_with fail
                          go_roundw
                          case rel => exact ⟨j + 2, _, by omega, by go_num, by simp; omega, by rw [app_str, sub_str, one_take hj1]; exact HS.out, C0', C1', hzB', HW3⟩
                          case measure => simp [intOf] <;> omega
                      · have hst := HR.out.last hjl (by simp; omega) e92
                        have HS := Lib.hid hst
                        clear hst HR n34 e92 hc92 hc34
                        go_wp2_with fail
                        go_roundw
                        case rel => exact ⟨j + 2, t, by omega, by go_num, by omega, HS.out, C0.out, C1.out, hzB, HW2.out⟩
                        case measure => simp [intOf] <;> omega
                    · have f2 : ((c : Int) == 92) = false := by simp; omega
                      have n92 : s.data.toList[j] ≠ 92 := by rw [es]; intro e; exact hc92 (by rw [← hc, e]; rfl)
                      have hst := HR.out.plain hjl n34 n92
                      have HS := Lib.hid hst
                      clear hst HR n34 n92 hc92 hc34
                      go_wp2_with fail
                      have x1 : IntKind.i64.wrap ((j : Int) + 1) = (j : Int) + 1 := IntWalk.i64_in _ (by omega)
                      have x2 : (0 : Int) ≤ (j : Int) + 1 := by omega
                      have x3 : (j : Int) + 1 ≤ s.size := by omega
                      have x6 : (j : Int) ≤ (j : Int) + 1 := by omega
                      refine Tryst2.wp_region_grows [.is (.pointer (some ⟨B, 2, none⟩)), .is (.string t), .is (.string s), .is (.int .i64 j), .is (.int .i64 j), .is (.int .i64 ((j : Int) + 1)), .is (.string (s.extract j (j + 1))), .is (.string (t ++ s.extract j (j + 1))), .is (.pointer (some ⟨B, 2, none⟩))] (by kernel_rfl) (by kernel_rfl) ?obl ?fin
                      case obl =>
                        simp only [Tryst2.AllObl, Tryst2.dstL, Tryst2.Obl, Tryst2.depsOf, Tryst2.binds_data, Tryst2.binds_chain, Tryst2.binds_phase, Tryst2.binds_guard, Tryst2.binds_text, Tryst2.binds_gc, Bool.false_eq_true, if_false, List.filterMap_cons_some, List.filterMap_cons_none, Tryst2.depsR, Tryst2.holdR, Tryst2.tmpsOf, Op.operands, Call.operands, Tryst2.Rsp.pred, Tryst2.wantedV_none, if_true, List.map_cons, List.map_nil, List.length_map, List.take_succ_cons, List.take_zero, List.length_cons, List.length_nil, List.getElem?_cons_zero, List.getElem?_cons_succ, Option.bind_some, id, List.getD_cons_zero, List.getD_cons_succ, Tryst2.isDst, List.filterMap_cons, List.filterMap_nil, List.toList_toArray]
                        repeat' apply And.intro
                        any_goals trivial
                        all_goals (intro tv w' hg hold hd; (try simp at hold); obtain ⟨hcg, hfg⟩ := Tryst2.Grow.cells hg; have hsg := Tryst2.Grow.le hg)
                        all_goals first | (go_simp; done) | (go_simp; rw [if_neg (by omega)]; exact ⟨.refl _, rfl⟩) | (obtain ⟨⟨g, hvg, hgg, hcell⟩, _⟩ := hd; have hcell0 := hcell 0 (by decide); simp at hcell0; go_simp; done) | (go_simp; omega)
                      case fin =>
                        intro tv w' hg hR
                        simp only [Tryst2.allR, Tryst2.dstL, Tryst2.Rsp.pred, List.map_cons, List.map_nil, List.take_succ_cons, List.take_zero, List.length_cons, List.length_nil, List.tail_cons, List.toList_toArray] at hR
                        obtain ⟨hcg, hfg⟩ := Tryst2.Grow.cells hg
                        have hsg := Tryst2.Grow.le hg
                        simp only [Tryst2.putAll, Tryst2.dstL, List.map_cons, List.map_nil, List.take_succ_cons, List.take_zero, List.length_cons, List.length_nil, List.toList_toArray, List.drop_succ_cons, List.drop_zero, Act.put, List.setIfInBounds_toArray, List.set_cons_zero, List.set_cons_succ, hR]
                        clear x1 x2 x3 x6
                        have hbw : Below wq.heap.size wq w' := by have := Tryst2.Grow.below hg (Below.refl _ _); exact this
                        have q0 := C0.out.grow (by omega) hbw
                        have q1 := C1.out.grow (by omega) hbw
                        have C0' := Lib.hid (q0.other2 (t := .string (t ++ s.extract (j) (j + 1))) (by omega : B ≠ w.heap.size))
                        have C1' := Lib.hid (q1.set2 (t := t ++ s.extract (j) (j + 1)))
                        have hzB' : B < (w'.setCell ⟨B, 2, none⟩ (.string (t ++ s.extract (j) (j + 1)))).heap.size := by simp; omega
                        have HW3 := Lib.hid (bset (p := ⟨B, 2, none⟩) (.string (t ++ s.extract (j) (j + 1))) (by simp; omega) (HW2.out.trans (hbw.mono HW2.out.size)))
                        obtain ⟨p0, p1, p2, p3, p4, p5⟩ := q1
                        clear hg hR hcg hfg hsg C0 C1 hbw q0 d0 d1 d2 d3 d4 d5 g0 g1 g2 g3 g4 g5 HW2 hzB
                        go_wp2_with fail
                        go_roundw
                        case rel => exact ⟨j + 1, _, by omega, by go_num, by simp; omega, by rw [app_str, sub_str, one_take hjs]; exact HS.out, C0', C1', hzB', HW3⟩
                        case measure => simp [intOf] <;> omega
                · have HF := Lib.hid (HR.out.bad (by simp; omega) HQ.out)
                  have x7 : (s.size : Int) ≤ j := by omega
                  go_wp2_with fail
                  refine Tryst2.wp_region_grows [.is (.int .i64 j), .is (.string s), .is (.int .i64 s.size), .is (.bool true), .is (.bool true), .is undef, .is undef, .is undef, .is undef, .is (.bool true), .is (.bool true), .is undef, .is undef, .is undef, .is undef, .is undef, .is undef, .is undef, .is (.bool true)] (by kernel_rfl) (by kernel_rfl) ?obl ?fin
                  case obl =>
                    simp only [Tryst2.AllObl, Tryst2.dstL, Tryst2.Obl, Tryst2.depsOf, Tryst2.binds_data, Tryst2.binds_chain, Tryst2.binds_phase, Tryst2.binds_guard, Tryst2.binds_text, Tryst2.binds_gc, Bool.false_eq_true, if_false, List.filterMap_cons_some, List.filterMap_cons_none, Tryst2.depsR, Tryst2.holdR, Tryst2.tmpsOf, Op.operands, Call.operands, Tryst2.Rsp.pred, Tryst2.wantedV_none, Tryst2.wantedV_some, if_true, List.map_cons, List.map_nil, List.length_map, List.take_succ_cons, List.take_zero, List.length_cons, List.length_nil, List.getElem?_cons_zero, List.getElem?_cons_succ, Option.bind_some, id, List.getD_cons_zero, List.getD_cons_succ, Tryst2.isDst, List.filterMap_cons, List.filterMap_nil, List.toList_toArray]
                    repeat' apply And.intro
                    any_goals trivial
                    all_goals (intro tv w' hg hold hd; (try simp at hold); obtain ⟨hcg, hfg⟩ := Tryst2.Grow.cells hg; have hsg := Tryst2.Grow.le hg)
                    all_goals first | (go_simp; done) | (go_simp; rw [if_neg (by omega)]; exact ⟨.refl _, rfl⟩) | (obtain ⟨⟨g, hvg, hgg, hcell⟩, _⟩ := hd; have hcell0 := hcell 0 (by decide); simp at hcell0; go_simp; done) | (go_simp; omega)
                  case fin =>
                    intro tv w' hg hR
                    simp only [Tryst2.allR, Tryst2.dstL, Tryst2.Rsp.pred, List.map_cons, List.map_nil, List.take_succ_cons, List.take_zero, List.length_cons, List.length_nil, List.tail_cons, List.toList_toArray] at hR
                    obtain ⟨hcg, hfg⟩ := Tryst2.Grow.cells hg
                    have hsg := Tryst2.Grow.le hg
                    simp only [Tryst2.putAll, Tryst2.dstL, List.map_cons, List.map_nil, List.take_succ_cons, List.take_zero, List.length_cons, List.length_nil, List.toList_toArray, List.drop_succ_cons, List.drop_zero, Act.put, List.setIfInBounds_toArray, List.set_cons_zero, List.set_cons_succ, hR]
                    have hbw : Below wq.heap.size wq w' := by have := Tryst2.Grow.below hg (Below.refl _ _); exact this
                    have q0 := C0.out.grow (by omega) hbw
                    have q1 := C1.out.grow (by omega) hbw
                    have HW3 := Lib.hid (HW2.out.trans (hbw.mono HW2.out.size))
                    obtain ⟨p0, p1, p2, p3, p4, p5⟩ := q1
                    obtain ⟨r0, r1, r2, r3, r4, r5⟩ := q0
                    clear hg hR hcg hfg hsg C0 C1 hbw d0 d1 d2 d3 d4 d5 g0 g1 g2 g3 g4 g5 HW2 hk hks k1 k2 k3 n1
                    go_wp2_with fail
                    exact bodyPost_ret (v := .tuple #[.agg #[.bool false, .int .i64 0, .string ⟨#[]⟩], .int .i64 0, .bool false]) (by simp [results, Tryz.results59, go_sem, *]) rfl ⟨ret_eq (by rw [HF.out]; simp [V.zero]), bset _ (by simp) (bset _ (by simp) (bset _ (by simp) HW3.out))⟩
          · have HR := Lib.hid (HB.out.none hke (by rw [hhd]; intro e; exact h34 (by rw [← hc0, Option.some.inj e]; rfl)))
            have e2 : ((c0 : Int) != 34) = true := by simp; omega
            clear hke HB h34 hhd
            by_cases hks : k ≤ s.size
            all_goals
              go_wp2_with fail
              exact bodyPost_ret (v := .tuple #[.agg #[.bool false, .int .i64 0, .string ⟨#[]⟩], .int .i64 0, .bool false]) (by simp [results, Tryz.results59, go_sem, *]) rfl ⟨ret_eq (by rw [HR.out]; simp [V.zero]), bset _ (by simp) (bset _ (by simp) (bset _ (by simp) HW.out))⟩
end Go.Proofs.YtmmdblpoecidaaaGreatDoor
