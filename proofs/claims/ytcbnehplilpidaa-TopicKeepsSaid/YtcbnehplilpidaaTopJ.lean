/- The walk of slices.Insert where there is room. -/
import Derived.Test.YtcbnehplilpidaaProg
import Derived.WalkKit
import Derived.WalkSpells
import Derived.WalkLawsBesides
import Derived.Lib.Hide
import Derived.Deep.RegionWith
import Derived.Deep.Cut
import Derived.IntWalk
import Derived.Test.YtcbnehplilpidaaTopI
set_option linter.unusedVariables false
set_option linter.unusedSimpArgs false
namespace Go.Proofs.Ytcbnehplilpidaa
open Go.RowKit Tryst
set_option maxHeartbeats 400000
set_option maxRecDepth 20000
theorem topSz : (Try.prog.info? 74).map (·.size) = some 3 := by kernel_rfl
theorem overlaps_apart (w : World) (g gv : Nat) (hne : gv ≠ g) (curv cur : Array Value) (hv : w.heap[gv]? = some (.cells curv 74 (0, 0))) (hg : w.heap[g]? = some (.cells cur 74 (0, 0))) (hs : cur.size ≠ 0) (o n c lb cb : Nat) :
    (callFunc 85 #[.slice (some ⟨gv, 0, none⟩) n c, .slice (some ⟨g, o, none⟩) lb cb]).run Try.prog w = .ok (.value (.bool false)) w := by
  rw [run_callFunc_extern Try.func85 (by kernel_rfl) (by kernel_rfl) (by kernel_rfl) (e := Extern.SlicesOverlaps.overlaps #[50, 50] #[4]) (by kernel_rfl),
    Lib.run_overlaps_apart w 50 4 74 Try.underlying50 3 (fun w => by kernel_rfl) ⟨gv, 0, none⟩ ⟨g, o, none⟩ n c lb cb hne 74 74 curv.size cur.size (by simp [World.shape?, hv]) (by simp [World.shape?, hg]) hs (by simp [World.frozen?, hv]) (by simp [World.frozen?, hv])]
  rfl
theorem splice_in {α : Type} (A T : List α) (p q k : Nat) (hT : T.length = k) (hp : p ≤ q) (hq : q + k ≤ A.length) :
    ((A.take (p + k) ++ (A.take q).drop p ++ A.drop (p + k + (q - p))).take p ++ T ++ (A.take (p + k) ++ (A.take q).drop p ++ A.drop (p + k + (q - p))).drop (p + k)) = A.take p ++ T ++ (A.take q).drop p ++ A.drop (q + k) := by
  have h1 : (A.take (p + k)).length = p + k := by rw [List.length_take]; omega
  have e1 : (A.take (p + k) ++ (A.take q).drop p ++ A.drop (p + k + (q - p))).take p = A.take p := by
    rw [List.append_assoc, List.take_append_of_le_length (by omega), List.take_take, Nat.min_eq_left (by omega)]
  have e2 : (A.take (p + k) ++ (A.take q).drop p ++ A.drop (p + k + (q - p))).drop (p + k) = (A.take q).drop p ++ A.drop (p + k + (q - p)) := by
    rw [List.append_assoc, List.drop_append_of_le_length (by omega), List.drop_eq_nil_of_le (by omega), List.nil_append]
  rw [e1, e2, show p + k + (q - p) = q + k by omega]
  simp only [List.append_assoc]
theorem splice_take {α : Type} (A T : List α) (p q k : Nat) (hT : T.length = k) (hp : p ≤ q) (hq : q + k ≤ A.length) :
    (A.take p ++ T ++ (A.take q).drop p ++ A.drop (q + k)).take (q + k) = (A.take q).take p ++ (T ++ (A.take q).drop p) := by
  have h1 : (A.take p ++ T ++ (A.take q).drop p).length = q + k := by simp; omega
  rw [List.take_append_of_le_length (by omega), List.take_of_length_le (by omega), List.take_take, Nat.min_eq_left hp, List.append_assoc]
theorem flat_take (l : List TB) (i : Nat) (hi : i ≤ l.length) : ((l.take i).map TB.cells).flatten = ((l.map TB.cells).flatten).take (i * 3) ∧ ((l.drop i).map TB.cells).flatten = ((l.map TB.cells).flatten).drop (i * 3) := by
  have h1 : ((l.take i).map TB.cells).flatten.length = i * 3 := by
    rw [flatten_len (TB.cells_len _), List.length_map, List.length_take, Nat.min_eq_left hi]
  have h2 : (l.map TB.cells).flatten = ((l.take i).map TB.cells).flatten ++ ((l.drop i).map TB.cells).flatten := by
    rw [← List.flatten_append, ← List.map_append, List.take_append_drop]
  rw [h2]
  constructor
  · rw [List.take_append_of_le_length (by omega)]
    exact (List.take_of_length_le (by omega)).symm
  · rw [List.drop_append_of_le_length (by omega), show List.drop (i * 3) ((l.take i).map TB.cells).flatten = [] from List.drop_eq_nil_of_le (by omega)]
    rfl
set_option maxRecDepth 100000 in
set_option maxHeartbeats 1000000 in
theorem tins_room (base g c : Nat) (l : List TB) (i : Nat) (hi : i < l.length) (hl : l.length ≤ 1000000) (hc : l.length + 1 ≤ c) (hcm : c ≤ 9223372036854775807) (t : TB) (gv : Nat) (w : World) (hO : TOwn w base (.slice (some ⟨g, 0, none⟩) l.length c) l) (hne : gv ≠ g) (curv : Array Value) (hv : w.heap[gv]? = some (.cells curv 74 (0, 0))) (hT : TAt w gv 0 t) :
    Calls Try.prog 66 #[.slice (some ⟨g, 0, none⟩) l.length c, .int .i64 i, .slice (some ⟨gv, 0, none⟩) 1 1] w fun e w' => InsR w base (.slice (some ⟨g, 0, none⟩) l.length c) (l.take i ++ t :: l.drop i) e w' := by
  have hO2 := hO
  rcases hO.2 with ⟨h, _⟩ | ⟨g', cap, cur, hsl, hg, hcur, hx1, hx2, hsz, htk⟩
  · cases h
  simp only [Value.slice.injEq, Option.some.injEq, Addr.mk.injEq, and_true] at hsl
  have hsl1 := hsl.1
  have hsl2 := hsl.2.2
  have HX2 := Lib.hid hx2
  clear hsl hx1 hx2
  subst hsl1 hsl2
  rw [List.length_map] at htk
  have hov := overlaps_apart w g gv hne curv cur hv hcur (by omega)
  have HOV := Lib.hid hov
  have hw1 : IntKind.i64.wrap ((i : Int) + 1) = (i : Int) + 1 := IntWalk.i64_in _ (by omega)
  have hb1 : (0 : Int) ≤ (i : Int) + 1 := by omega
  have htn : ((i : Int) + 1).toNat = i + 1 := by omega
  have hb2 : ¬ (c = i + 1) := by omega
  have hb3 : (i : Int) ≤ (l.length : Int) + 1 := by omega
  have hb4 : ¬ (c = i) := by omega
  have hb7 : i ≤ l.length := by omega
  have hb5 : ((i : Int) == (l.length : Int)) = false := beq_false_of_ne (by omega)
  have hb6 : ¬ ((c : Int) < (l.length : Int) + 1) := by omega
  have HOO := Lib.hid hO2
  have HTK := Lib.hid htk
  have HT := Lib.hid hT
  have HCUR := Lib.hid hcur
  have HSZ := Lib.hid hsz
  clear hO hO2 htk hT hcur hsz
  go_enter Try.func66, Try.ntmps66
  go_wp2_with (simp only [hov])
  have hsz3 : (l.map TB.cells).flatten.length = l.length * 3 := by rw [flatten_len (TB.cells_len l), List.length_map]
  obtain ⟨A, hA⟩ : ∃ A, cur.toList = A := ⟨_, rfl⟩
  have hAl : A.length = c * 3 := by rw [← hA, Array.length_toList]; exact HSZ.out
  have HCA : Hid (w.heap[g]? = some (.cells A.toArray 74 (0, 0))) := Lib.hid (by rw [← hA]; simpa using HCUR.out)
  have HTA : Hid (A.take (l.length * 3) = (l.map TB.cells).flatten) := Lib.hid (by rw [← hA]; exact HTK.out)
  have hcsl : ((A.take (l.length * 3)).drop (i * 3)).length = (l.length - i) * 3 := by rw [List.length_drop, List.length_take]; omega
  have HCSL := Lib.hid hcsl
  have HAL := Lib.hid hAl
  have HNE := Lib.hid hne
  have HVV := Lib.hid hv
  clear hA hsz3 hcsl hAl hov HOV HCUR HTK HSZ hne hv
  refine Tryst2.wp_region_grows [.is (.slice (some ⟨g, 0, none⟩) (l.length + 1) c), .is (.int .i64 i), .is (.int .i64 1), .is (.int .i64 ((i : Int) + 1)), .is (.slice (some ⟨g, (i + 1) * 3, none⟩) (l.length - i) (c - (i + 1))), .is (.slice (some ⟨g, 0, none⟩) (l.length + 1) c), .is (.int .i64 i), .is (.slice (some ⟨g, i * 3, none⟩) (l.length + 1 - i) (c - i))] (by kernel_rfl) (by kernel_rfl) ?obl ?fin
  case obl =>
    simp only [Tryst2.AllObl, Tryst2.dstL, Tryst2.Obl, Tryst2.depsOf, Tryst2.binds_data, Tryst2.binds_chain, Tryst2.binds_phase, Tryst2.binds_guard, Tryst2.binds_text, Tryst2.binds_gc, Bool.false_eq_true, if_false, List.filterMap_cons_some, List.filterMap_cons_none, Tryst2.depsR, Tryst2.holdR, Tryst2.tmpsOf, Op.operands, Call.operands, Tryst2.Rsp.pred, Tryst2.wantedV_none, Tryst2.wantedV_some, if_true, List.map_cons, List.map_nil, List.length_map, List.take_succ_cons, List.take_zero, List.length_cons, List.length_nil, List.getElem?_cons_zero, List.getElem?_cons_succ, Option.bind_some, id, List.getD_cons_zero, List.getD_cons_succ, Tryst2.isDst, List.filterMap_cons, List.filterMap_nil, List.toList_toArray]
    repeat' apply And.intro
    any_goals trivial
    all_goals (intro tv w' hg hold hd; (try simp at hold); obtain ⟨hcg, hfg⟩ := Tryst2.Grow.cells hg; have hsg := Tryst2.Grow.le hg)
    all_goals first | (go_simp; done) | (go_simp; rw [if_neg (by omega)]; exact ⟨.refl _, rfl⟩) | (obtain ⟨⟨g, hvg, hgg, hcell⟩, _⟩ := hd; have hcell0 := hcell 0 (by decide); simp at hcell0; go_simp; done) 
  case fin =>
    intro tv w' hg hR
    simp only [Tryst2.allR, Tryst2.dstL, Tryst2.Rsp.pred, List.map_cons, List.map_nil, List.take_succ_cons, List.take_zero, List.length_cons, List.length_nil, List.tail_cons, List.toList_toArray] at hR
    obtain ⟨hcg, hfg⟩ := Tryst2.Grow.cells hg
    have hsg := Tryst2.Grow.le hg
    simp only [Tryst2.putAll, Tryst2.dstL, List.map_cons, List.map_nil, List.take_succ_cons, List.take_zero, List.length_cons, List.length_nil, List.toList_toArray, List.drop_succ_cons, List.drop_zero, Act.put, List.setIfInBounds_toArray, List.set_cons_zero, List.set_cons_succ, hR]
    have hbw := Tryst2.Grow.below hg (.refl w.heap.size w)
    have hgz : g < w.heap.size := (Array.getElem?_eq_some_iff.1 HCA.out).1
    have hvz : gv < w.heap.size := (Array.getElem?_eq_some_iff.1 HVV.out).1
    have HG1 := Lib.hid ((hbw.block g hgz).trans HCA.out)
    have HV1 := Lib.hid ((hbw.block gv hvz).trans HVV.out)
    have HT1 : Hid (∀ (j : Nat) u, t.cells[j]? = some u → w'.cell? ((⟨gv, 0, none⟩ : Addr).add j) = some u) := Lib.hid (fun j u hj => by
      obtain ⟨k0, k1, k2⟩ := HT.out
      rw [Addr.add_lit, Nat.zero_add, hbw.cell (p := ⟨gv, j, none⟩) hvz]
      match j, hj with
      | 0, hj => simp [TB.cells] at hj; subst hj; simpa using k0
      | 1, hj => simp [TB.cells] at hj; subst hj; simpa using k1
      | 2, hj => simp [TB.cells] at hj; subst hj; simpa using k2
      | j + 3, hj => simp [TB.cells] at hj)
    have HS1 : Hid (∀ (j : Nat) u, ((A.take (l.length * 3)).drop (i * 3))[j]? = some u → w'.cell? ((⟨g, i * 3, none⟩ : Addr).add j) = some u) := Lib.hid (fun j u hj => by
      rw [List.getElem?_drop, List.getElem?_take] at hj
      split at hj
      · rw [Addr.add_lit]
        have hA := HG1.out
        unfold World.cell?
        rw [hA]
        simpa using hj
      · cases hj)
    have HB1 := Lib.hid hbw
    have hlf1 : ∀ u ∈ (A.take (l.length * 3)).drop (i * 3), u.oneCell' = true := fun u hu => by
      rw [HTA.out] at hu
      obtain ⟨x, hx, hux⟩ := List.mem_flatten.1 (List.mem_of_mem_drop hu)
      exact TB.cells_one l x hx u hux
    have HLF := Lib.hid hlf1
    clear hbw hlf1 hg hR hcg hfg hsg hgz hvz
    refine wpList_copyK rfl (.tmp 73) (.tmp 76) 50 50 rfl 74 3 Try.underlying50 topSz g ((i + 1) * 3) (l.length - i) (c - (i + 1)) ⟨g, i * 3, none⟩ (l.length + 1 - i) (c - i) rfl rfl A 74 HG1.out ((A.take (l.length * 3)).drop (i * 3)) (by rw [HCSL.out, show Nat.min (l.length + 1 - i) (l.length - i) = l.length - i from Nat.min_eq_right (by omega)]) HS1.out (by rw [HCSL.out, HAL.out]; omega) HLF.out ?_
    intro w2 hg2 hbel hoth hsz2
    rw [HCSL.out] at hg2
    have hR1l : (A.take ((i + 1) * 3) ++ (A.take (l.length * 3)).drop (i * 3) ++ A.drop ((i + 1) * 3 + (l.length - i) * 3)).length = c * 3 := by
      rw [List.length_append, List.length_append, HCSL.out, List.length_take, List.length_drop, HAL.out]; omega
    obtain ⟨R1, hR1⟩ : ∃ R1, A.take ((i + 1) * 3) ++ (A.take (l.length * 3)).drop (i * 3) ++ A.drop ((i + 1) * 3 + (l.length - i) * 3) = R1 := ⟨_, rfl⟩
    rw [hR1] at hg2 hR1l
    have HG2 := Lib.hid hg2
    have HR1 := Lib.hid hR1
    have HR1L := Lib.hid hR1l
    have HT2 : Hid (∀ (j : Nat) u, t.cells[j]? = some u → w2.cell? ((⟨gv, 0, none⟩ : Addr).add j) = some u) := Lib.hid (fun j u hj => by
      rw [← HT1.out j u hj, Addr.add_lit]
      exact World.cell?_of_block (w := w') (a := ⟨gv, 0 + j, none⟩) (hoth gv HNE.out))
    have HOTH := Lib.hid hoth
    have HBEL := Lib.hid hbel
    have HSZ2 := Lib.hid hsz2
    clear hg2 hR1 hR1l hoth hbel hsz2
    have H1 : Hid (∀ u ∈ t.cells, u.oneCell' = true) := Lib.hid (fun u hu => TB.cells_one [t] t.cells (by simp) u hu)
    go_upto_region 16 with fail
    go_wp2_with (refine wpList_copyK rfl (.tmp 80) (.tmp 81) 50 50 rfl 74 3 Try.underlying50 topSz g (i * 3) (l.length + 1 - i) (c - i) ⟨gv, 0, none⟩ 1 1 rfl rfl R1 74 HG2.out t.cells (by rw [show Nat.min 1 (l.length + 1 - i) = 1 from Nat.min_eq_left (by omega)]; rfl) HT2.out (by rw [HR1L.out]; show i * 3 + 3 ≤ _; omega) H1.out ?_; intro w3 hg3 hbel3 hoth3 hsz3)
    go_ret
    have hlen : (l.take i ++ t :: l.drop i).length = l.length + 1 := by simp; omega
    have hgz : g < w.heap.size := (Array.getElem?_eq_some_iff.1 HCA.out).1
    have hspl := splice_in A t.cells (i * 3) (l.length * 3) 3 rfl (by omega) (by rw [HAL.out]; omega)
    have hstk := splice_take A t.cells (i * 3) (l.length * 3) 3 rfl (by omega) (by rw [HAL.out]; omega)
    have hr1 := HR1.out
    rw [show (i + 1) * 3 = i * 3 + 3 by omega, show (l.length - i) * 3 = l.length * 3 - i * 3 by omega] at hr1
    rw [hr1] at hspl
    have hR2 : R1.take (i * 3) ++ t.cells ++ R1.drop (i * 3 + t.cells.length) = A.take (i * 3) ++ t.cells ++ (A.take (l.length * 3)).drop (i * 3) ++ A.drop (l.length * 3 + 3) := hspl
    rw [hR2] at hg3
    refine ⟨some ⟨g, 0, none⟩, c, ?_, ?_, ?_, ?_⟩
    · rw [hlen]
      rfl
    · refine ⟨flatten_len (TB.cells_len _), .inr ⟨g, c, _, ?_, hg, hg3, ?_, HX2.out, ?_, ?_⟩⟩
      · rw [List.length_map]
      · rw [List.length_map, hlen]; exact hc
      · simp only [List.size_toArray, List.length_append, List.length_take, List.length_drop, HAL.out, show t.cells.length = 3 from rfl]; omega
      · show (List.take _ _) = _
        rw [List.length_map, hlen, show (l.length + 1) * 3 = l.length * 3 + 3 by omega]
        show (A.take (i * 3) ++ t.cells ++ (A.take (l.length * 3)).drop (i * 3) ++ A.drop (l.length * 3 + 3)).take (l.length * 3 + 3) = _
        rw [hstk, HTA.out, List.map_append, List.flatten_append, List.map_cons, List.flatten_cons, (flat_take l i (by omega)).1, (flat_take l i (by omega)).2]
    · exact hbel3 base w hg (HBEL.out base w hg (HB1.out.mono (by omega)))
    · intro k hk ha
      have hne : k ≠ g := fun e => ha ⟨g, 0, none⟩ _ _ rfl e.symm
      exact ((hoth3 k hne).trans (HOTH.out k hne)).trans (HB1.out.block k hk)
end Go.Proofs.Ytcbnehplilpidaa
