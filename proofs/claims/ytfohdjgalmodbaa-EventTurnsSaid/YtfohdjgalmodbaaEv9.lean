/- The walk of Put where there are no fields. -/
import Derived.Test.YtfohdjgalmodbaaProg
import Derived.WalkKit
import Derived.WalkSpells
import Derived.WalkLawsBesides
import Derived.Lib.Hide
import Derived.Deep.RegionWith
import Derived.Deep.Cut
import Derived.Test.YtfohdjgalmodbaaEv6
import Derived.Test.YtfohdjgalmodbaaPutE
import Derived.Test.YtfohdjgalmodbaaEv7
set_option linter.unusedVariables false
set_option linter.unusedSimpArgs false
namespace Go.Proofs.Ytfohdjgalmodbaa
open Go.RowKit Tryst
set_option maxHeartbeats 400000
set_option maxRecDepth 20000
set_option maxHeartbeats 2000000 in
theorem put_nil (t p : ByteArray) (q : Int) (f : FB) (w : World) :
    Calls Try.prog 15 #[.agg #[.string t, .string p, .int .u64 q, .slice none 0 0], .string f.name, .agg #[.bool f.num, .int .i64 f.n, .string f.s]] w fun e w' => EvR w t p q [f] e w' := by
  obtain ⟨M, hM, hmk⟩ := makeF 1 (by omega)
  have hmk2 : ∀ w : World, (Instr.makeSlice 23 (.int .i64 0) (.int .i64 1)).run Try.prog w = .ok (.slice (some ⟨w.heap.size, 0, none⟩) 0 1) (w.alloc (.cells M 42)) := fun w => by simpa using hmk w
  have HM := Lib.hid hM
  clear hmk hM
  go_enter Try.func15, Try.ntmps15
  go_wp2_with fail
  have PW := PutW.new w t p q (.slice none 0 0) f 25 9 27 25 42
  revert PW
  generalize (((((w.alloc (.cells #[.string t, .string p, .int .u64 q, .slice none 0 0] 25)).alloc (.cells #[.string f.name] 9)).alloc (.cells #[.bool f.num, .int .i64 f.n, .string f.s] 27)).alloc (.cells #[.string ⟨#[]⟩, .string ⟨#[]⟩, .int .u64 0, .slice none 0 0] 25)).alloc (.cells #[.string f.name, .bool f.num, .int .i64 f.n, .string f.s] 42)) = X
  intro PW
  refine (find_c t p q none 0 [] (by simp) f.name X (Flds.nil _ _)).mono ?_
  rintro e w1 ⟨rfl, hb1⟩
  rw [show idxB (fun x => x.name.toList == f.name.toList) [] = -1 from rfl]
  have PW1 := PW.grow hb1
  have hz1 := PW1.size
  have HP1 := Lib.hid PW1
  obtain ⟨c0, c1, c2, c3, c4, c5, c6, c7⟩ := PW1.e
  clear PW PW1 hb1
  go_wp2_with fail
  refine (indexAbove_c f.name ⟨w.heap.size + 1, 0, none⟩ none 0 [] (by simp) w1 (Flds.nil _ _) HP1.out.n (by show w.heap.size + 1 < _; omega)).mono ?_
  rintro e w2 ⟨rfl, hb2⟩
  rw [show idxB (fun x => Op.bytesLess f.name.toList x.name.toList) [] = -1 from rfl]
  have PW2 := HP1.out.grow hb2
  have HP2 := Lib.hid PW2
  have hz2 := PW2.size
  obtain ⟨d0, d1, d2, d3, d4, d5, d6, d7⟩ := PW2.e
  clear PW2 hb2 HP1 c0 c1 c2 c3 c4 c5 c6 c7
  go_upto_region 11 with fail
  obtain ⟨G, hG⟩ : ∃ G, w2.heap.size = G := ⟨_, rfl⟩
  have hX : Hid (PutW w (w2.alloc (.cells M 42)) t p q (.slice none 0 0) f) ∧ Hid ((w2.alloc (.cells M 42)).heap[G]? = some (.cells M 42 (0, 0))) ∧ G < (w2.alloc (.cells M 42)).heap.size := by
    refine ⟨HP2.out.grow (balloc _ (.refl _ _)), ?_, by simp; omega⟩
    show (w2.heap.push _)[G]? = _
    rw [← hG]; simp
  rw [hG]
  have hGz : w.heap.size + 5 ≤ G := by omega
  clear HP2 d0 d1 d2 d3 d4 d5 d6 d7 hz2 hmk2
  revert hX
  generalize w2.alloc (.cells M 42) = X3
  rintro ⟨HP, HG, hGX⟩
  clear hG
  refine Tryst3.wp_region_ext G (.cells M 42 (0, 0)) [.is (.slice (some ⟨G, 0, none⟩) 0 1), .is (.pointer (some ⟨w.heap.size, 3, none⟩)), .is (.slice none 0 0), .is (.int .i64 0), .is (.slice none 0 0), .is (.slice (some ⟨G, 0, none⟩) 0 1), .is (.agg #[.string f.name, .bool f.num, .int .i64 f.n, .string f.s]), .any (Tryst3.OneG G f)] (by kernel_rfl) (by kernel_rfl) ?obl ?fin
  case obl =>
    simp only [Tryst2.AllObl, Tryst2.dstL, Tryst2.Obl, Tryst2.depsOf, Tryst2.binds_data, Tryst2.binds_chain, Tryst2.binds_phase, Tryst2.binds_guard, Tryst2.binds_text, Tryst2.binds_gc, Bool.false_eq_true, if_false, List.filterMap_cons_some, List.filterMap_cons_none, Tryst2.depsR, Tryst2.holdR, Tryst2.tmpsOf, Op.operands, Call.operands, Tryst3.Rsp.pred, Tryst2.wantedV_none, Tryst2.wantedV_some, if_true, List.map_cons, List.map_nil, List.length_map, List.take_succ_cons, List.take_zero, List.length_cons, List.length_nil, List.getElem?_cons_zero, List.getElem?_cons_succ, Option.bind_some, id, List.getD_cons_zero, List.getD_cons_succ, Tryst2.isDst, List.filterMap_cons, List.filterMap_nil, List.toList_toArray]
    repeat' apply And.intro
    any_goals trivial
    all_goals (intro tv w' hg hold hd; (try simp at hold); obtain ⟨e0, e1, e2, e3, e4, e5, e6, e7⟩ := hg.ev (b := w.heap.size) (EAt.mk HP.out.e.c0 HP.out.e.c1 HP.out.e.c2 HP.out.e.c3 HP.out.e.f0 HP.out.e.f1 HP.out.e.f2 HP.out.e.f3) (by show w.heap.size < X3.heap.size; omega) (by omega); have hgs : X3.heap.size ≤ w'.heap.size := hg.size; obtain ⟨f0, f1, f2, f3⟩ := hg.fat (b := w.heap.size + 1 + 1 + 1 + 1) (o := 0) (f := f) (FAt.mk HP.out.fa.c0 HP.out.fa.c1 HP.out.fa.c2 HP.out.fa.c3) (by show w.heap.size + 1 + 1 + 1 + 1 < X3.heap.size; omega) (by omega); simp only [Nat.zero_add] at f1 f2 f3)
    all_goals first | (go_simp; done) | (go_simp; rw [if_neg (by omega)]; exact ⟨.refl _ _ _, rfl⟩) | (go_simp; exact Tryst3.oneG G _ f _ _ (by omega))
  case fin =>
    intro tv w' hg hR
    simp only [Tryst2.allR, Tryst2.dstL, Tryst3.Rsp.pred, List.map_cons, List.map_nil, List.take_succ_cons, List.take_zero, List.length_cons, List.length_nil, List.tail_cons, List.toList_toArray] at hR
    simp only [Tryst2.putAll, Tryst2.dstL, List.map_cons, List.map_nil, List.take_succ_cons, List.take_zero, List.length_cons, List.length_nil, List.toList_toArray, List.drop_succ_cons, List.drop_zero, Act.put, List.setIfInBounds_toArray, List.set_cons_zero, List.set_cons_succ, hR]
    obtain ⟨g2, e50, hg2, hf2⟩ := Tryst3.OneG.at hR.2.2.2.2.2.2.2.1
    simp only [e50]
    have hgs : X3.heap.size ≤ w'.heap.size := hg.size
    have E1 := hg.ev (b := w.heap.size) (EAt.mk HP.out.e.c0 HP.out.e.c1 HP.out.e.c2 HP.out.e.c3 HP.out.e.f0 HP.out.e.f1 HP.out.e.f2 HP.out.e.f3) (by show w.heap.size < X3.heap.size; omega) (by omega)
    have E2 := hg.ev (b := w.heap.size + 1 + 1 + 1) (EAt.mk HP.out.z.c0 HP.out.z.c1 HP.out.z.c2 HP.out.z.c3 HP.out.z.f0 HP.out.z.f1 HP.out.z.f2 HP.out.z.f3) (by show w.heap.size + 1 + 1 + 1 < X3.heap.size; omega) (by omega)
    have KB : Below w.heap.size w w' := (HP.out.b.drew).trans (hg.below (B := w.heap.size) (by omega) (by show w.heap.size ≤ X3.heap.size; omega))
    have hrow : w'.heap[G]? = some (.cells M 42 (0, 0)) := by
      rcases hg.row with h | h
      · exact h.trans HG.out
      · exact h
    have O1 : FOwn 42 w' G (.slice (some ⟨G, 0, none⟩) 0 1) [] := Tryst3.own_made hrow HM.out (by unfold maxLen; omega)
    clear hR hg HP HG e50 hrow
    refine wpList_appN fldT rfl _ _ rfl G _ [] 0 rfl rfl O1 f g2 rfl hf2 (by omega) (by omega) ?_
    intro a' c' w3 O2 hb3
    have hz3 : w'.heap.size ≤ w3.heap.size := hb3.size
    have E1' := E1.growB (B := G) (by omega) hb3
    have E2' := E2.growB (B := G) (by omega) hb3
    have KB' := Lib.hid (KB.trans (hb3.mono (by omega)))
    obtain ⟨z0, z1, z2, z3, z4, z5, z6, z7⟩ := E2'
    obtain ⟨d0, d1, d2, d3, d4, d5, d6, d7⟩ := E1'
    have hGw : G ≤ w3.heap.size := by omega
    rw [List.nil_append] at O2
    obtain ⟨g3, rfl, _, hg3, _⟩ := FOwn.row (l := [f]) O2 (by simp)
    have O5 := ((((O2.set (b := w.heap.size) (o := 3) (by omega) (.slice (some ⟨g3, 0, none⟩) (0 + 1) c')).set (b := w.heap.size + 1 + 1 + 1) (o := 0) (by omega) (.string t)).set (b := w.heap.size + 1 + 1 + 1) (o := 1) (by omega) (.string p)).set (b := w.heap.size + 1 + 1 + 1) (o := 2) (by omega) (.int .u64 q)).set (b := w.heap.size + 1 + 1 + 1) (o := 3) (by omega) (.slice (some ⟨g3, 0, none⟩) (0 + 1) c')
    obtain ⟨aa, cc, hv, hfl, _, _, hcc⟩ := O5.flds
    obtain ⟨rfl, rfl⟩ : some (⟨g3, 0, none⟩ : Addr) = aa ∧ c' = cc := by simpa using hv
    simp only [Nat.zero_add] at hfl hcc
    have HFL := Lib.hid hfl
    have HCC := Lib.hid hcc
    have y1 : w.heap.size < w3.heap.size := by omega
    have hc1 : 1 ≤ c' := by have := HCC.out.cap; simpa using this
    clear hv hfl hcc O5 O2 hb3 E1 E2 KB O1 hf2
    go_wp2_with fail
    refine bodyPost_ret (v := .agg #[.string t, .string p, .int .u64 q, .slice (some ⟨g3, 0, none⟩) 1 c']) (by simp [results, Try.results15, go_sem, *]) rfl ⟨_, c', rfl, HFL.out, HCC.out, ?_⟩
    exact bset _ (by simp; omega) (bset _ (by simp; omega) (bset _ (by simp; omega) (bset _ (by simp; omega) (bset _ (by simp) KB'.out))))
end Go.Proofs.Ytfohdjgalmodbaa
