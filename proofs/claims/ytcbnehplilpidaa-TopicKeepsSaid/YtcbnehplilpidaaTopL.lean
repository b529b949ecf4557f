/- The walk of slices.Insert of one topic. -/
import Derived.Test.YtcbnehplilpidaaProg
import Derived.WalkKit
import Derived.WalkSpells
import Derived.WalkLawsBesides
import Derived.Lib.Hide
import Derived.Deep.RegionWith
import Derived.Deep.Cut
import Derived.IntWalk
import Derived.Test.YtcbnehplilpidaaTopK
set_option linter.unusedVariables false
set_option linter.unusedSimpArgs false
namespace Go.Proofs.Ytcbnehplilpidaa
open Go.RowKit Tryst
set_option maxHeartbeats 400000
set_option maxRecDepth 20000
set_option maxRecDepth 100000 in
set_option maxHeartbeats 1000000 in
theorem tins_grow (base g : Nat) (l : List TB) (i : Nat) (hi : i < l.length) (hl : l.length ≤ 1000000) (t : TB) (gv : Nat) (w : World) (hO : TOwn w base (.slice (some ⟨g, 0, none⟩) l.length l.length) l) (hb : base ≤ w.heap.size) (hgv : gv < w.heap.size) (hT : TAt w gv 0 t) :
    Calls Try.prog 66 #[.slice (some ⟨g, 0, none⟩) l.length l.length, .int .i64 i, .slice (some ⟨gv, 0, none⟩) 1 1] w fun e w' => InsR w base (.slice (some ⟨g, 0, none⟩) l.length l.length) (l.take i ++ t :: l.drop i) e w' := by
  obtain ⟨a', c', hv, hrow, _, h9⟩ := ROwn.row hO (TB.cells_len l) (by decide)
  rw [List.length_map] at hv
  simp only [Value.slice.injEq, true_and] at hv
  have hv1 := hv.1
  clear hv
  subst hv1
  have hgz := (h9 g 0 rfl).2.1
  have hF : ((l.map TB.cells).flatten).length = l.length * 3 := by rw [flatten_len (TB.cells_len l), List.length_map]
  have hcell : ∀ (j : Nat) u, ((l.map TB.cells).flatten)[j]? = some u → w.cell? ⟨g, j, none⟩ = some u := fun j u hj => by
    have h6 := hrow.cells (TB.cells_len l) (by decide) j u hj
    rwa [Addr.add_lit, Nat.zero_add] at h6
  obtain ⟨A, C, hA, hC1, hC2, hA3, hrun⟩ := grow_run g l.length i hi hl _ hF w hcell
  have HRUN := Lib.hid hrun
  have hw1 : IntKind.i64.wrap ((i : Int) + 1) = (i : Int) + 1 := IntWalk.i64_in _ (by omega)
  have hw2 : IntKind.i64.wrap ((l.length : Int) + 1 - i) = (l.length : Int) + 1 - i := IntWalk.i64_in _ (by omega)
  have hb1 : (0 : Int) ≤ (i : Int) + 1 := by omega
  have htn : ((i : Int) + 1).toNat = i + 1 := by omega
  have hb4 : ¬ (C = i) := by omega
  have hb2 : ¬ (C = i + 1) := by omega
  have hb7 : i ≤ l.length := by omega
  have hb8 : ¬ (l.length = i) := by omega
  have hb5 : ((i : Int) == (l.length : Int)) = false := beq_false_of_ne (by omega)
  have HCELL := Lib.hid hcell
  have HF := Lib.hid hF
  have HA := Lib.hid hA
  have HA3 := Lib.hid hA3
  have HT := Lib.hid hT
  have HO := Lib.hid hO
  have HBA := Lib.hid (balloc (.cells A.toArray 74) (bdrew (.refl w.heap.size w)))
  have HGA : Hid ((w.drew.alloc (.cells A.toArray 74)).heap[w.heap.size]? = some (.cells A.toArray 74 (0, 0))) := Lib.hid (by
    show (w.heap.push _)[w.heap.size]? = _
    simp)
  have HTG : Hid (∀ (j : Nat) u, t.cells[j]? = some u → (w.drew.alloc (.cells A.toArray 74)).cell? ((⟨gv, 0, none⟩ : Addr).add j) = some u) := Lib.hid (fun j u hj => by
    obtain ⟨k0, k1, k2⟩ := hT
    rw [Addr.add_lit, Nat.zero_add, HBA.out.cell (p := ⟨gv, j, none⟩) hgv]
    match j, hj with
    | 0, hj => simp [TB.cells] at hj; subst hj; simpa using k0
    | 1, hj => simp [TB.cells] at hj; subst hj; simpa using k1
    | 2, hj => simp [TB.cells] at hj; subst hj; simpa using k2
    | j + 3, hj => simp [TB.cells] at hj)
  have H1 : Hid (∀ u ∈ t.cells, u.oneCell' = true) := Lib.hid (fun u hu => TB.cells_one [t] t.cells (by simp) u hu)
  have HGZ := Lib.hid hgz
  clear hrow h9 hF hcell hA hA3 hrun hT hO hgz hgv
  go_enter Try.func66, Try.ntmps66
  go_upto_region 9 with fail
  go_wp2_with (first | (refine Lib.wpList_append_run _ rfl (.tmp 34) (.tmp 39) 50 3 rfl (.slice (some ⟨g, 0, none⟩) i l.length) (.int .i64 ((l.length : Int) + 1 - i)) rfl rfl _ _ (HRUN.out _) ?_) | (refine wpList_copyK rfl (.tmp 43) (.tmp 44) 50 50 rfl 74 3 Try.underlying50 topSz w.heap.size (i * 3) (l.length + 1 - i) (C - i) ⟨gv, 0, none⟩ 1 1 rfl rfl A 74 HGA.out t.cells (by rw [show Nat.min 1 (l.length + 1 - i) = 1 from Nat.min_eq_left (by omega)]; rfl) HTG.out (by rw [HA.out]; show i * 3 + 3 ≤ _; omega) H1.out ?_; intro w2 hg2 hbel hoth hsz2; have HG2 := Lib.hid hg2; have HBEL := Lib.hid hbel; have HOTH := Lib.hid hoth; clear hg2 hbel hoth hsz2))
  have HBW2 := Lib.hid (HBEL.out w.heap.size w (Nat.le_refl _) HBA.out)
  refine Tryst2.wp_region_grows [.is (.slice (some ⟨w.heap.size, 0, none⟩) (l.length + 1) C), .is (.int .i64 i), .is (.int .i64 1), .is (.int .i64 ((i : Int) + 1)), .is (.slice (some ⟨w.heap.size, (i + 1) * 3, none⟩) (l.length - i) (C - (i + 1))), .is (.slice (some ⟨g, 0, none⟩) l.length l.length), .is (.int .i64 i), .is (.slice (some ⟨g, i * 3, none⟩) (l.length - i) (l.length - i))] (by kernel_rfl) (by kernel_rfl) ?obl ?fin
  case obl =>
    simp only [Tryst2.AllObl, Tryst2.dstL, Tryst2.Obl, Tryst2.depsOf, Tryst2.binds_data, Tryst2.binds_chain, Tryst2.binds_phase, Tryst2.binds_guard, Tryst2.binds_text, Tryst2.binds_gc, Bool.false_eq_true, if_false, List.filterMap_cons_some, List.filterMap_cons_none, Tryst2.depsR, Tryst2.holdR, Tryst2.tmpsOf, Op.operands, Call.operands, Tryst2.Rsp.pred, Tryst2.wantedV_none, Tryst2.wantedV_some, if_true, List.map_cons, List.map_nil, List.length_map, List.take_succ_cons, List.take_zero, List.length_cons, List.length_nil, List.getElem?_cons_zero, List.getElem?_cons_succ, Option.bind_some, id, List.getD_cons_zero, List.getD_cons_succ, Tryst2.isDst, List.filterMap_cons, List.filterMap_nil, List.toList_toArray]
    repeat' apply And.intro
    any_goals trivial
    all_goals (intro tv w' hg hold hd; (try simp at hold); obtain ⟨hcg, hfg⟩ := Tryst2.Grow.cells hg; have hsg := Tryst2.Grow.le hg)
    all_goals first | (go_simp; done) | (go_simp; rw [if_neg (by omega)]; exact ⟨.refl _, rfl⟩) | (obtain ⟨⟨g, hvg, hgg, hcell⟩, _⟩ := hd; have hcell0 := hcell 0 (by decide); simp at hcell0; go_simp; done) 
  case fin =>
    intro tv w' hg hR
    simp only [Tryst2.allR, Tryst2.dstL, Tryst2.Rsp.pred, List.map_cons, List.map_nil, List.take_succ_cons, List.take_zero, List.length_cons, List.length_nil, List.tail_cons, List.toList_toArray] at hR
    obtain ⟨hcg, hfg⟩ := Tryst2.Grow.cells hg
    have hsg := Tryst2.Grow.le hg
    simp only [Tryst2.putAll, Tryst2.dstL, List.map_cons, List.map_nil, List.take_succ_cons, List.take_zero, List.length_cons, List.length_nil, List.toList_toArray, List.drop_succ_cons, List.drop_zero, Act.put, List.setIfInBounds_toArray, List.set_cons_zero, List.set_cons_succ, hR]
    have hbw := Tryst2.Grow.below hg (.refl w2.heap.size w2)
    have hGz : w.heap.size < w2.heap.size := (Array.getElem?_eq_some_iff.1 HG2.out).1
    have hRl : (A.take (i * 3) ++ t.cells ++ A.drop (i * 3 + t.cells.length)).length = C * 3 := by
      rw [List.length_append, List.length_append, List.length_take, List.length_drop, HA.out, show t.cells.length = 3 from rfl]; omega
    have HG3 := Lib.hid ((hbw.block w.heap.size hGz).trans HG2.out)
    obtain ⟨R1, hR1⟩ : ∃ R1, A.take (i * 3) ++ t.cells ++ A.drop (i * 3 + t.cells.length) = R1 := ⟨_, rfl⟩
    rw [hR1] at HG3 hRl
    have HR1 := Lib.hid hR1
    have HRL := Lib.hid hRl
    obtain ⟨F, hF⟩ : ∃ F, (l.map TB.cells).flatten = F := ⟨_, rfl⟩
    have HFL := HF
    rw [hF] at HFL
    have HS : Hid (∀ (j : Nat) u, (F.drop (i * 3))[j]? = some u → w'.cell? ((⟨g, i * 3, none⟩ : Addr).add j) = some u) := Lib.hid (fun j u hj => by
      rw [List.getElem?_drop] at hj
      rw [Addr.add_lit, hbw.cell (p := ⟨g, i * 3 + j, none⟩) (Nat.lt_trans HGZ.out hGz), HBW2.out.cell (p := ⟨g, i * 3 + j, none⟩) HGZ.out]
      exact HCELL.out _ _ (by rw [hF]; exact hj))
    have HLF : Hid (∀ u ∈ F.drop (i * 3), u.oneCell' = true) := Lib.hid (fun u hu => by
      rw [← hF] at hu
      obtain ⟨x, hx, hux⟩ := List.mem_flatten.1 (List.mem_of_mem_drop hu)
      exact TB.cells_one l x hx u hux)
    have hdl : (F.drop (i * 3)).length = (l.length - i) * 3 := by rw [List.length_drop, HFL.out]; omega
    have HDL := Lib.hid hdl
    have HFF := Lib.hid hF
    have HB1 := Lib.hid (bstep hbw HBW2.out)
    clear hbw hg hR hcg hfg hsg hGz hR1 hRl hF hdl
    refine wpList_copyK rfl (.tmp 50) (.tmp 53) 50 50 rfl 74 3 Try.underlying50 topSz w.heap.size ((i + 1) * 3) (l.length - i) (C - (i + 1)) ⟨g, i * 3, none⟩ (l.length - i) (l.length - i) rfl rfl R1 74 HG3.out (F.drop (i * 3)) (by rw [HDL.out, show Nat.min (l.length - i) (l.length - i) = l.length - i from Nat.min_self _]) HS.out (by rw [HDL.out, HRL.out]; omega) HLF.out ?_
    intro w3 hg3 hbel3 hoth3 hsz3
    have HG4 := Lib.hid hg3
    have HBEL3 := Lib.hid hbel3
    have HOTH3 := Lib.hid hoth3
    clear hg3 hbel3 hoth3 hsz3
    go_wp2_with fail
    go_ret
    have hlen : (l.take i ++ t :: l.drop i).length = l.length + 1 := by simp; omega
    have h3 : t.cells.length = 3 := rfl
    have hat : (A.take (i * 3)).length = i * 3 := by rw [List.length_take, HA.out]; omega
    have hr1 : R1.take ((i + 1) * 3) = A.take (i * 3) ++ t.cells := by
      rw [← HR1.out, List.take_append_of_le_length (by rw [List.length_append, hat, h3]; omega)]
      exact List.take_of_length_le (by rw [List.length_append, hat, h3]; omega)
    have hg4 := HG4.out
    rw [hr1] at hg4
    refine ⟨some ⟨w.heap.size, 0, none⟩, C, ?_, ?_, ?_, ?_⟩
    · rw [hlen]
      rfl
    · refine ⟨flatten_len (TB.cells_len _), .inr ⟨w.heap.size, C, _, ?_, hb, hg4, ?_, hC2, ?_, ?_⟩⟩
      · rw [List.length_map]
      · rw [List.length_map, hlen]; exact hC1
      · simp only [List.size_toArray, List.length_append, hat, h3, HDL.out, List.length_drop (l := R1), HRL.out]; omega
      · show (List.take _ _) = _
        rw [List.length_map, hlen]
        show (A.take (i * 3) ++ t.cells ++ F.drop (i * 3) ++ _).take ((l.length + 1) * 3) = _
        rw [List.take_append_of_le_length (by rw [List.length_append, List.length_append, hat, h3, HDL.out]; omega), List.take_of_length_le (by rw [List.length_append, List.length_append, hat, h3, HDL.out]; omega), HA3.out, List.map_append, List.flatten_append, List.map_cons, List.flatten_cons, (flat_take l i (by omega)).1, (flat_take l i (by omega)).2, HFF.out, List.append_assoc]
    · exact HBEL3.out base w hb (HB1.out.mono hb)
    · intro k hk _
      exact (HOTH3.out k (by omega)).trans (HB1.out.block k hk)
/-- slices.Insert of one topic, wherever there is room or not -/
theorem tins_c (base : Nat) (a : Option Addr) (c : Nat) (l : List TB) (i : Nat) (hi : i ≤ l.length) (hl : l.length ≤ 1000000) (hcm : c ≤ 9223372036854775807) (t : TB) (gv : Nat) (w : World) (hO : TOwn w base (.slice a l.length c) l) (hb : base ≤ w.heap.size) (hne : i < l.length → ∀ A, a = some A → gv ≠ A.block) (curv : Array Value) (hv : w.heap[gv]? = some (.cells curv 74 (0, 0))) (hT : TAt w gv 0 t) :
    Calls Try.prog 66 #[.slice a l.length c, .int .i64 i, .slice (some ⟨gv, 0, none⟩) 1 1] w fun e w' => InsR w base (.slice a l.length c) (l.take i ++ t :: l.drop i) e w' := by
  by_cases h : i = l.length
  · subst h
    have e : l.take l.length ++ t :: l.drop l.length = l ++ [t] := by simp
    rw [e]
    exact tins_end base a c l hl t gv w hO hb hT
  · have hlt : i < l.length := by omega
    obtain ⟨g, c', hv', _, _, _, _⟩ := TOwn.block hO (by omega)
    simp only [Value.slice.injEq, true_and] at hv'
    obtain ⟨rfl, rfl⟩ := hv'
    by_cases hc : c = l.length
    · subst hc
      exact tins_grow base g l i hlt hl t gv w hO hb (Array.getElem?_eq_some_iff.1 hv).1 hT
    · obtain ⟨a', c', hv2, _, hs, _⟩ := ROwn.row hO (TB.cells_len l) (by decide)
      rw [List.length_map] at hv2 hs
      simp only [Value.slice.injEq, true_and] at hv2
      have hc2 := hs.cap
      rw [← hv2.2] at hc2
      exact tins_room base g c l i hlt hl (by omega) hcm t gv w hO (hne hlt ⟨g, 0, none⟩ rfl) curv hv hT
end Go.Proofs.Ytcbnehplilpidaa
