/- The walks of event.Put. -/
import Derived.Test.YtcbnehplilpidaaProg
import Derived.WalkKit
import Derived.WalkSpells
import Derived.WalkLawsBesides
import Derived.Lib.Hide
import Derived.Deep.RegionWith
import Derived.Deep.Cut
import Derived.Test.YtcbnehplilpidaaFldG
import Derived.Test.YtcbnehplilpidaaEv3
import Derived.Test.YtcbnehplilpidaaEvA
import Derived.Test.YtcbnehplilpidaaDraws
set_option linter.unusedVariables false
set_option linter.unusedSimpArgs false
namespace Go.Proofs.Ytcbnehplilpidaa
open Go.RowKit Tryst
set_option maxHeartbeats 400000
set_option maxRecDepth 20000
def CloneR (w : World) (l : List FB) (e : Ending) (w' : World) : Prop := ∃ a c, e = .returned (.slice a l.length c) ∧ FOwn 39 w' w.heap.size (.slice a l.length c) l ∧ Below w.heap.size w w'
theorem flds_cells {w : World} {b o : Nat} {l : List FB} (h : Flds w (some ⟨b, o, none⟩) l) : ∀ (j : Nat) u, (l.flatMap FB.cells)[j]? = some u → w.cell? ((⟨b, o, none⟩ : Addr).add j) = some u := by
  intro j u hj
  have hjl : j < l.length * 4 := by rw [← flat_len]; exact (List.getElem?_eq_some_iff.1 hj).1
  have hi : j / 4 < l.length := by omega
  obtain ⟨_, f0, f1, f2, f3⟩ := h.at hi
  have e := flat_at l (j / 4) hi (j % 4) (by omega)
  rw [show j / 4 * 4 + j % 4 = j by omega, hj] at e
  rw [Addr.add_lit]
  have hm : j % 4 = 0 ∨ j % 4 = 1 ∨ j % 4 = 2 ∨ j % 4 = 3 := by omega
  rcases hm with hm | hm | hm | hm <;> rw [hm] at e <;> simp [FB.cells] at e <;> subst e
  · rw [show o + j = o + j / 4 * 4 by omega]; exact f0
  · rw [show o + j = o + j / 4 * 4 + 1 by omega]; exact f1
  · rw [show o + j = o + j / 4 * 4 + 2 by omega]; exact f2
  · rw [show o + j = o + j / 4 * 4 + 3 by omega]; exact f3
theorem _root_.Tryst.FOwn.empty (e : TypeId) (w : World) (base : Nat) (h : base ≤ w.heap.size) : FOwn e (w.alloc (.cells #[] e)) base (.slice (some ⟨w.heap.size, 0, none⟩) 0 0) [] := by
  refine ⟨rfl, .inr ⟨w.heap.size, 0, #[], rfl, h, ?_, Nat.le_refl _, by unfold maxLen; omega, rfl, rfl⟩⟩
  show (w.heap.push _)[w.heap.size]? = _; simp
theorem cells_one (l : List FB) : ∀ u ∈ l.flatMap FB.cells, u.oneCell' = true := by
  intro u hu
  obtain ⟨f, _, hf⟩ := List.mem_flatMap.1 hu
  simp [FB.cells] at hf
  rcases hf with rfl | rfl | rfl | rfl <;> rfl
theorem clone_c (b o c : Nat) (l : List FB) (hl : l.length ≤ 1000000000) (h0 : 0 < l.length) (w : World) (hF : Flds w (some ⟨b, o, none⟩) l) :
    Calls Try.prog 39 #[.slice (some ⟨b, o, none⟩) l.length c] w fun e w' => CloneR w l e w' := by
  have HF := Lib.hid hF
  clear hF
  go_enter Try.func39, Try.ntmps39
  have hq := fun (w : World) (a : Option Addr) (n c : Nat) => Lib.run_eql_slice_nil (P := Try.prog) w 23 39 a n c 0 0 Try.underlying23
  have hO : FOwn 39 (w.alloc (.cells #[] 39)) w.heap.size (.slice (some ⟨w.heap.size, 0, none⟩) 0 0) [] := FOwn.empty _ _ _ (Nat.le_refl _)
  have HO := Lib.hid hO
  have HFC := Lib.hid (flds_cells (HF.out.grow (balloc (.cells #[] 39) (.refl _ w))))
  clear hO HF
  go_wp2_with (at_builtin; refine wpList_appS fldT rfl _ _ rfl w.heap.size _ [] rfl HO.out l l.length rfl b o c rfl HFC.out (by simp; omega) (by simp) ?_; intro a' c' w1 ho hb)
  go_ret
  refine ⟨a', c', ?_, ?_, ?_⟩
  · simp
  · simpa using ho
  · exact (balloc _ (.refl _ _)).trans hb
end Go.Proofs.Ytcbnehplilpidaa
namespace Go.Proofs.Ytcbnehplilpidaa
open Go.RowKit Tryst
set_option maxHeartbeats 400000
set_option maxRecDepth 20000
theorem findB_idx {l : List FB} {n : ByteArray} {k : Nat} (hk : k < l.length) (h : idxB (fun f => f.name.toList == n.toList) l = k) : l[k].name.data.toList = n.data.toList ∧ ∀ (j : Nat) (h : j < l.length), j < k → l[j].name.data.toList ≠ n.data.toList := by
  unfold idxB at h
  cases e : l.findIdx? (fun f => f.name.toList == n.toList) with
  | none => rw [e] at h; simp at h
  | some i =>
    rw [e] at h
    have h' : i = k := by
      have h3 : (i : Int) = k := by simpa using h
      omega
    subst h'
    obtain ⟨_, h1, h2⟩ := List.findIdx?_eq_some_iff_getElem.1 e
    refine ⟨?_, fun j hj hlt hne => h2 j hlt (strEq hne)⟩
    have := beq_iff_eq.1 h1
    rwa [str_toList, str_toList] at this
theorem setAt {w : World} {b o : Nat} {l : List FB} {k : Nat} (hk : k < l.length) (h : Flds w (some ⟨b, o, none⟩) l) (f : FB) :
    Flds ((((w.setCell ⟨b, o + k * 4, none⟩ (.string f.name)).setCell ⟨b, o + k * 4 + 1, none⟩ (.bool f.num)).setCell ⟨b, o + k * 4 + 2, none⟩ (.int .i64 f.n)).setCell ⟨b, o + k * 4 + 3, none⟩ (.string f.s)) (some ⟨b, o, none⟩) (l.set k f) := by
  intro i hi
  have hi' : i < l.length := by simpa using hi
  obtain ⟨hb, f0, f1, f2, f3⟩ := h.at hi'
  obtain ⟨_, g0, g1, g2, g3⟩ := h.at hk
  refine ⟨b, o, rfl, by simpa using hb, ?_⟩
  by_cases e : k = i
  · subst e
    rw [List.getElem_set_self]
    constructor <;> simp [cell_setCell, g0, g1, g2, g3]
  · rw [List.getElem_set_ne e]
    have e0 : ∀ x y, x < 4 → y < 4 → ¬ o + k * 4 + x = o + i * 4 + y := fun x y hx hy => by omega
    have q00 := e0 0 0 (by omega) (by omega); have q01 := e0 0 1 (by omega) (by omega); have q02 := e0 0 2 (by omega) (by omega); have q03 := e0 0 3 (by omega) (by omega)
    have q10 := e0 1 0 (by omega) (by omega); have q11 := e0 1 1 (by omega) (by omega); have q12 := e0 1 2 (by omega) (by omega); have q13 := e0 1 3 (by omega) (by omega)
    have q20 := e0 2 0 (by omega) (by omega); have q21 := e0 2 1 (by omega) (by omega); have q22 := e0 2 2 (by omega) (by omega); have q23 := e0 2 3 (by omega) (by omega)
    have q30 := e0 3 0 (by omega) (by omega); have q31 := e0 3 1 (by omega) (by omega); have q32 := e0 3 2 (by omega) (by omega); have q33 := e0 3 3 (by omega) (by omega)
    simp only [Nat.add_zero] at q00 q01 q02 q03 q10 q20 q30
    constructor
    · rw [cell_setCell, if_neg (fun h => q30 h.2), cell_setCell, if_neg (fun h => q20 h.2), cell_setCell, if_neg (fun h => q10 h.2), cell_setCell, if_neg (fun h => q00 h.2)]; exact f0
    · rw [cell_setCell, if_neg (fun h => q31 h.2), cell_setCell, if_neg (fun h => q21 h.2), cell_setCell, if_neg (fun h => q11 h.2), cell_setCell, if_neg (fun h => q01 h.2)]; exact f1
    · rw [cell_setCell, if_neg (fun h => q32 h.2), cell_setCell, if_neg (fun h => q22 h.2), cell_setCell, if_neg (fun h => q12 h.2), cell_setCell, if_neg (fun h => q02 h.2)]; exact f2
    · rw [cell_setCell, if_neg (fun h => q33 h.2), cell_setCell, if_neg (fun h => q23 h.2), cell_setCell, if_neg (fun h => q13 h.2), cell_setCell, if_neg (fun h => q03 h.2)]; exact f3
set_option maxHeartbeats 2000000 in
theorem put_found (t p : ByteArray) (q : Int) (b o c : Nat) (l : List FB) (hl : l.length ≤ 1000000000) (f : FB) (w : World) (hF : Flds w (some ⟨b, o, none⟩) l) (k : Nat) (hk : k < l.length) (hi : idxB (fun x => x.name.toList == f.name.toList) l = k) (hb : b < w.heap.size) :
    Calls Try.prog 12 #[.agg #[.string t, .string p, .int .u64 q, .slice (some ⟨b, o, none⟩) l.length c], .string f.name, .agg #[.bool f.num, .int .i64 f.n, .string f.s]] w fun e w' => EvR w t p q (setB l f) e w' := by
  have hset := setB_at l f k hk (findB_idx hk hi).1 (findB_idx hk hi).2
  have HSet := Lib.hid hset
  have HF := Lib.hid hF
  have HI := Lib.hid hi
  clear hF hi hset
  go_enter Try.func12, Try.ntmps12
  go_wp2_with fail
  have PW := PutW.new w t p q (.slice (some ⟨b, o, none⟩) l.length c) f 25 9 27 25 39
  revert PW
  generalize (((((w.alloc (.cells #[.string t, .string p, .int .u64 q, .slice (some ⟨b, o, none⟩) l.length c] 25)).alloc (.cells #[.string f.name] 9)).alloc (.cells #[.bool f.num, .int .i64 f.n, .string f.s] 27)).alloc (.cells #[.string ⟨#[]⟩, .string ⟨#[]⟩, .int .u64 0, .slice none 0 0] 25)).alloc (.cells #[.string f.name, .bool f.num, .int .i64 f.n, .string f.s] 39)) = X
  intro PW
  refine (find_c t p q _ c l hl f.name X (HF.out.grow PW.b)).mono ?_
  rintro e w1 ⟨rfl, hb1⟩
  rw [HI.out]
  have PW1 := PW.grow hb1
  have HF1 := Lib.hid (HF.out.grow PW1.b)
  have hz1 := PW1.size
  have x1 : (0 : Int) ≤ k := by omega
  have HP1 := Lib.hid PW1
  obtain ⟨c0, c1, c2, c3, c4, c5, c6, c7⟩ := PW1.e
  clear PW PW1 hb1 HF
  go_wp2_with fail
  refine (clone_c b o c l hl (by omega) w1 HF1.out).mono ?_
  rintro e w2 ⟨a', c', rfl, ho, hb2⟩
  obtain ⟨g, rfl, hg1, hg2, hg3⟩ := ho.row (by omega)
  have PW2 := HP1.out.grow hb2
  have hO := ho.set (b := w.heap.size) (o := 3) (by omega) (.slice (some ⟨g, 0, none⟩) l.length c')
  have y1 : w.heap.size < w2.heap.size := by have := hb2.size; omega
  obtain ⟨_, _, hv, hF3, _, _, hcc⟩ := ho.flds
  obtain ⟨rfl, rfl⟩ : some (⟨g, 0, none⟩ : Addr) = _ ∧ c' = _ := by simpa using hv
  have n1 : ¬ w.heap.size = g := by omega
  have n2 : ¬ g = w.heap.size := by omega
  have n3 : ¬ w.heap.size + 1 + 1 + 1 = g := by omega
  have n4 : ¬ g = w.heap.size + 1 + 1 + 1 := by omega
  have n5 : ¬ w.heap.size + 1 + 1 + 1 + 1 = g := by omega
  have n6 : ¬ g = w.heap.size + 1 + 1 + 1 + 1 := by omega
  have hF4 := ((((setAt hk (hF3.set (c := w.heap.size) (j := 3) n1 (.slice (some ⟨g, 0, none⟩) l.length c')) f).set (c := w.heap.size + 1 + 1 + 1) (j := 0) n3 (.string t)).set (c := w.heap.size + 1 + 1 + 1) (j := 1) n3 (.string p)).set (c := w.heap.size + 1 + 1 + 1) (j := 2) n3 (.int .u64 q)).set (c := w.heap.size + 1 + 1 + 1) (j := 3) n3 (.slice (some ⟨g, 0, none⟩) l.length c')
  obtain ⟨_, k0, k1, k2, k3⟩ := hF3.at hk
  simp only [Nat.zero_add] at k0 k1 k2 k3 hF4
  rw [← HSet.out] at hF4
  have HF4 := Lib.hid hF4
  have HP2 := Lib.hid PW2
  obtain ⟨d0, d1, d2, d3, d4, d5, d6, d7⟩ := PW2.e
  obtain ⟨f0, f1, f2, f3⟩ := PW2.fa
  obtain ⟨z0, z1, z2, z3, z4, z5, z6, z7⟩ := PW2.z
  simp only [Nat.zero_add] at f1 f2 f3
  have hz2 := PW2.size
  have r0 := hg3 (k * 4)
  have r1 := hg3 (k * 4 + 1)
  have r2 := hg3 (k * 4 + 2)
  have r3 := hg3 (k * 4 + 3)
  have x3 : (k : Int) < l.length := by omega
  have hlen : l.length = (setB l f).length := (setB_length l f).symm
  have HLN := Lib.hid hlen
  clear ho hO hv hF3 PW2 hb2 c0 c1 c2 c3 c4 c5 c6 c7 HF1 hg3 hF4 hlen HP1
  go_wp2_with fail
  refine bodyPost_ret (v := .agg #[.string t, .string p, .int .u64 q, .slice (some ⟨g, 0, none⟩) l.length c']) (by simp [results, Try.results12, go_sem, *]) rfl ⟨some ⟨g, 0, none⟩, c', by rw [← HLN.out], HF4.out, by rw [← HLN.out]; exact hcc, ?_⟩
  exact bset _ (by simp; omega) (bset _ (by simp; omega) (bset _ (by simp; omega) (bset _ (by simp; omega) (bset _ (by simp; omega) (bset _ (by simp; omega) (bset _ (by simp; omega) (bset _ (by simp; omega) (bset _ (by simp) HP2.out.b))))))))
end Go.Proofs.Ytcbnehplilpidaa
namespace Go.Proofs.Ytcbnehplilpidaa
open Go.RowKit Tryst
set_option maxHeartbeats 400000
set_option maxRecDepth 20000
theorem aboveB_idx {l : List FB} {n : ByteArray} {k : Nat} (hk : k < l.length) (h : idxB (fun f => Op.bytesLess n.toList f.name.toList) l = k) : Op.bytesLess n.data.toList l[k].name.data.toList = true ∧ ∀ (j : Nat) (h : j < l.length), j < k → Op.bytesLess n.data.toList l[j].name.data.toList = false := by
  unfold idxB at h
  cases e : l.findIdx? (fun f => Op.bytesLess n.toList f.name.toList) with
  | none => rw [e] at h; simp at h
  | some i =>
    rw [e] at h
    have h' : i = k := by
      have h3 : (i : Int) = k := by simpa using h
      omega
    subst h'
    obtain ⟨_, h1, h2⟩ := List.findIdx?_eq_some_iff_getElem.1 e
    refine ⟨by rwa [str_toList, str_toList] at h1, fun j hj hlt => ?_⟩
    have := h2 j hlt
    rw [str_toList, str_toList] at this
    simpa using this
theorem above_cases (l : List FB) (f : FB) : (∃ (k : Nat), k < l.length ∧ idxB (fun x => Op.bytesLess f.name.toList x.name.toList) l = k ∧ insB l f = l.take k ++ [f] ++ l.drop k) ∨ (idxB (fun x => Op.bytesLess f.name.toList x.name.toList) l = -1 ∧ insB l f = l ++ [f]) := by
  cases e : l.findIdx? (fun x => Op.bytesLess f.name.toList x.name.toList) with
  | none =>
    refine .inr ⟨by unfold idxB; rw [e], ?_⟩
    have h := List.findIdx?_eq_none_iff.1 e
    have := insB_at l f l.length (Nat.le_refl _) (fun h => by omega) (fun j hj _ => by
      have := h l[j] (List.getElem_mem hj)
      rwa [str_toList, str_toList] at this)
    rw [this]; simp
  | some k =>
    obtain ⟨hk, _, _⟩ := List.findIdx?_eq_some_iff_getElem.1 e
    have hi : idxB (fun x => Op.bytesLess f.name.toList x.name.toList) l = k := by unfold idxB; rw [e]
    obtain ⟨h1, h2⟩ := aboveB_idx hk hi
    exact .inl ⟨k, hk, hi, insB_at l f k (by omega) (fun _ => h1) h2⟩
theorem infoF : (Try.prog.info? 39).map (fun i => (i.zero, i.size, i.bytes)) = some (some (.agg #[.string ⟨#[]⟩, .bool false, .int .i64 0, .string ⟨#[]⟩]), 4, 48) := by kernel_rfl
theorem makeF (n : Nat) (hn : n ≤ 1000000001) : ∃ M : Array Value, M.size = n * 4 ∧ ∀ w : World, (Instr.makeSlice 23 (.int .i64 0) (.int .i64 (n : Int))).run Try.prog w = .ok (.slice (some ⟨w.heap.size, 0, none⟩) 0 n) (w.alloc (.cells M 39)) := by
  obtain ⟨i, hi, hz, h2, h3⟩ := info_parts infoF
  refine ⟨madeCells (Value.agg #[.string ⟨#[]⟩, .bool false, .int .i64 0, .string ⟨#[]⟩]).cells (n * 4), size_madeCells _ _, fun w => ?_⟩
  have hr := run_make (P := Try.prog) w 23 39 i _ Try.underlying23 hi hz .i64 .i64 0 n (Int.le_refl _) (by omega) (by rw [h3]; omega) (by omega)
  rw [h2] at hr
  simpa using hr
set_option maxHeartbeats 2000000 in
theorem put_new (t p : ByteArray) (q : Int) (b o c : Nat) (l : List FB) (hl : l.length ≤ 1000000000) (hc : l.length ≤ c) (f : FB) (w : World) (hF : Flds w (some ⟨b, o, none⟩) l) (k : Nat) (hk : k < l.length) (hi : idxB (fun x => x.name.toList == f.name.toList) l = -1)
    (hi2 : idxB (fun x => Op.bytesLess f.name.toList x.name.toList) l = k) (hins : insB l f = l.take k ++ [f] ++ l.drop k) (hb : b < w.heap.size) :
    Calls Try.prog 12 #[.agg #[.string t, .string p, .int .u64 q, .slice (some ⟨b, o, none⟩) l.length c], .string f.name, .agg #[.bool f.num, .int .i64 f.n, .string f.s]] w fun e w' => EvR w t p q (insB l f) e w' := by
  have HIns := Lib.hid hins
  have HF := Lib.hid hF
  have HI := Lib.hid hi
  have HI2 := Lib.hid hi2
  obtain ⟨M, hM, hmk⟩ := makeF (l.length + 1) (by omega)
  have hmk2 : ∀ w : World, (Instr.makeSlice 23 (.int .i64 0) (.int .i64 ((l.length : Int) + 1))).run Try.prog w = .ok (.slice (some ⟨w.heap.size, 0, none⟩) 0 (l.length + 1)) (w.alloc (.cells M 39)) := fun w => by simpa using hmk w
  have HM := Lib.hid hM
  clear hF hi hi2 hins hmk hM
  go_enter Try.func12, Try.ntmps12
  go_wp2_with fail
  have PW := PutW.new w t p q (.slice (some ⟨b, o, none⟩) l.length c) f 25 9 27 25 39
  revert PW
  generalize (((((w.alloc (.cells #[.string t, .string p, .int .u64 q, .slice (some ⟨b, o, none⟩) l.length c] 25)).alloc (.cells #[.string f.name] 9)).alloc (.cells #[.bool f.num, .int .i64 f.n, .string f.s] 27)).alloc (.cells #[.string ⟨#[]⟩, .string ⟨#[]⟩, .int .u64 0, .slice none 0 0] 25)).alloc (.cells #[.string f.name, .bool f.num, .int .i64 f.n, .string f.s] 39)) = X
  intro PW
  refine (find_c t p q _ c l hl f.name X (HF.out.grow PW.b)).mono ?_
  rintro e w1 ⟨rfl, hb1⟩
  rw [HI.out]
  have PW1 := PW.grow hb1
  have HF1 := Lib.hid (HF.out.grow PW1.b)
  have hz1 := PW1.size
  have HP1 := Lib.hid PW1
  obtain ⟨c0, c1, c2, c3, c4, c5, c6, c7⟩ := PW1.e
  clear PW PW1 hb1 HF
  go_wp2_with fail
  refine (indexAbove_c f.name ⟨w.heap.size + 1, 0, none⟩ _ c l hl w1 HF1.out HP1.out.n (by show w.heap.size + 1 < _; omega)).mono ?_
  rintro e w2 ⟨rfl, hb2⟩
  rw [HI2.out]
  have PW2 := HP1.out.grow hb2
  have HF2 := Lib.hid (HF1.out.grow hb2)
  have HP2 := Lib.hid PW2
  have hz2 := PW2.size
  obtain ⟨d0, d1, d2, d3, d4, d5, d6, d7⟩ := PW2.e
  have x1 : (0 : Int) ≤ k := by omega
  clear PW2 hb2 HF1 HP1 c0 c1 c2 c3 c4 c5 c6 c7
  go_upto_region 11 with fail
  obtain ⟨G, hG⟩ : ∃ G, w2.heap.size = G := ⟨_, rfl⟩
  have hX : Hid (PutW w (w2.alloc (.cells M 39)) t p q (.slice (some ⟨b, o, none⟩) l.length c) f) ∧ Hid (Flds (w2.alloc (.cells M 39)) (some ⟨b, o, none⟩) l) ∧ Hid ((w2.alloc (.cells M 39)).heap[G]? = some (.cells M 39 (0, 0))) ∧ G < (w2.alloc (.cells M 39)).heap.size := by
    refine ⟨HP2.out.grow (balloc _ (.refl _ _)), HF2.out.grow (balloc _ (.refl _ _)), ?_, by simp; omega⟩
    show (w2.heap.push _)[G]? = _
    rw [← hG]; simp
  rw [hG]
  have hGz : w.heap.size + 5 ≤ G := by omega
  clear HP2 HF2 d0 d1 d2 d3 d4 d5 d6 d7 hz2 hmk2
  revert hX
  generalize w2.alloc (.cells M 39) = X3
  rintro ⟨HP, HF3, HG, hGX⟩
  clear hG
  have x2 : (k : Int) ≤ c := by omega
  have x3 : k ≤ c := by omega
  have hr1 : (l.take k).length = k := by simp; omega
  have hr2 := Lib.hid hr1
  clear hr1
  refine Tryst3.wp_region_ext G (Tryst3.rowC 39 (l.take k) M) [.is (.slice (some ⟨G, 0, none⟩) 0 (l.length + 1)), .is (.pointer (some ⟨w.heap.size, 3, none⟩)), .is (.slice (some ⟨b, o, none⟩) l.length c), .is (.int .i64 k), .is (.slice (some ⟨b, o, none⟩) k c), .any (Tryst3.App48 39 G (l.length + 1) (l.take k) M), .is (.agg #[.string f.name, .bool f.num, .int .i64 f.n, .string f.s]), .any (Tryst3.OneG G f)] (by kernel_rfl) (by kernel_rfl) ?obl ?fin
  case obl =>
    simp only [Tryst2.AllObl, Tryst2.dstL, Tryst2.Obl, Tryst2.depsOf, Tryst2.binds_data, Tryst2.binds_chain, Tryst2.binds_phase, Tryst2.binds_guard, Tryst2.binds_text, Tryst2.binds_gc, Bool.false_eq_true, if_false, List.filterMap_cons_some, List.filterMap_cons_none, Tryst2.depsR, Tryst2.holdR, Tryst2.tmpsOf, Op.operands, Call.operands, Tryst3.Rsp.pred, Tryst2.wantedV_none, Tryst2.wantedV_some, if_true, List.map_cons, List.map_nil, List.length_map, List.take_succ_cons, List.take_zero, List.length_cons, List.length_nil, List.getElem?_cons_zero, List.getElem?_cons_succ, Option.bind_some, id, List.getD_cons_zero, List.getD_cons_succ, Tryst2.isDst, List.filterMap_cons, List.filterMap_nil, List.toList_toArray]
    repeat' apply And.intro
    any_goals trivial
    all_goals (intro tv w' hg hold hd; (try simp at hold); obtain ⟨e0, e1, e2, e3, e4, e5, e6, e7⟩ := hg.ev (b := w.heap.size) (EAt.mk HP.out.e.c0 HP.out.e.c1 HP.out.e.c2 HP.out.e.c3 HP.out.e.f0 HP.out.e.f1 HP.out.e.f2 HP.out.e.f3) (by show w.heap.size < X3.heap.size; omega) (by omega); have hgs : X3.heap.size ≤ w'.heap.size := hg.size; obtain ⟨f0, f1, f2, f3⟩ := hg.fat (b := w.heap.size + 1 + 1 + 1 + 1) (o := 0) (f := f) (FAt.mk HP.out.fa.c0 HP.out.fa.c1 HP.out.fa.c2 HP.out.fa.c3) (by show w.heap.size + 1 + 1 + 1 + 1 < X3.heap.size; omega) (by omega); simp only [Nat.zero_add] at f1 f2 f3)
    all_goals first | (go_simp; done) | (go_simp; rw [if_neg (by omega)]; exact ⟨.refl _ _ _, rfl⟩) | (go_simp; exact Tryst3.oneG G _ f _ _ (by omega)) | (refine Tryst3.step48 (w := X3.drew) fldT (.tmp 43) (.tmp 47) rfl G (l.length + 1) M (l.take k) HM.out (show X3.drew.heap[G]? = _ from HG.out) hg hd.1 k b o c hr2.out hd.2.1 (flds_cells (Tryst3.flds_take (hg.flds (l := l) (b := b) (o := o) (Flds.drew HF3.out) (by omega)) k)) (by omega))
  case fin =>
    intro tv w' hg hR
    simp only [Tryst2.allR, Tryst2.dstL, Tryst3.Rsp.pred, List.map_cons, List.map_nil, List.take_succ_cons, List.take_zero, List.length_cons, List.length_nil, List.tail_cons, List.toList_toArray] at hR
    simp only [Tryst2.putAll, Tryst2.dstL, List.map_cons, List.map_nil, List.take_succ_cons, List.take_zero, List.length_cons, List.length_nil, List.toList_toArray, List.drop_succ_cons, List.drop_zero, Act.put, List.setIfInBounds_toArray, List.set_cons_zero, List.set_cons_succ, hR]
    obtain ⟨e48, h48⟩ := Tryst3.App48.at hR.2.2.2.2.2.1
    obtain ⟨g2, e50, hg2, hf2⟩ := Tryst3.OneG.at hR.2.2.2.2.2.2.2.1
    rw [hr2.out] at e48
    simp only [e48, e50]
    have hgs : X3.heap.size ≤ w'.heap.size := hg.size
    have E1 := hg.ev (b := w.heap.size) (EAt.mk HP.out.e.c0 HP.out.e.c1 HP.out.e.c2 HP.out.e.c3 HP.out.e.f0 HP.out.e.f1 HP.out.e.f2 HP.out.e.f3) (by show w.heap.size < X3.heap.size; omega) (by omega)
    have E2 := hg.ev (b := w.heap.size + 1 + 1 + 1) (EAt.mk HP.out.z.c0 HP.out.z.c1 HP.out.z.c2 HP.out.z.c3 HP.out.z.f0 HP.out.z.f1 HP.out.z.f2 HP.out.z.f3) (by show w.heap.size + 1 + 1 + 1 < X3.heap.size; omega) (by omega)
    have F4 := hg.flds (l := l) (b := b) (o := o) (Flds.drew HF3.out) (by omega)
    have KB : Below w.heap.size w w' := (HP.out.b.drew).trans (hg.below (B := w.heap.size) (by omega) (by show w.heap.size ≤ X3.heap.size; omega))
    have O1 : FOwn 39 w' G (.slice (some ⟨G, 0, none⟩) k (l.length + 1)) (l.take k) := by
      have := Tryst3.own48 (base := G) h48 HM.out (by rw [hr2.out]; omega) (Nat.le_refl _) (by unfold maxLen; omega)
      rw [hr2.out] at this
      exact this
    clear hR hg HP HF3 HG e48 e50 h48
    refine wpList_appN fldT rfl _ _ rfl G _ (l.take k) k hr2.out rfl O1 f g2 rfl hf2 (by omega) (by omega) ?_
    intro a' c' w3 O2 hb3
    have hz3 : w'.heap.size ≤ w3.heap.size := hb3.size
    have E1' := E1.growB (B := G) (by omega) hb3
    have E2' := E2.growB (B := G) (by omega) hb3
    have F5 := F4.growB (B := G) (by omega) hb3
    have KB' := Lib.hid (KB.trans (hb3.mono (by omega)))
    obtain ⟨d0, d1, d2, d3, d4, d5, d6, d7⟩ := E1'
    have hZ := Lib.hid E2'
    have hE := Lib.hid (EAt.mk d0 d1 d2 d3 d4 d5 d6 d7)
    have HO2 := Lib.hid O2
    have HF5 := Lib.hid F5
    have HFC := Lib.hid (flds_cells (Tryst3.flds_drop F5 k))
    have x4 : (k : Int) ≤ l.length := by omega
    have x5 : l.length - k = (l.drop k).length := by simp
    have hGw : G ≤ w3.heap.size := by omega
    have hr3 : (l.drop k).length = l.length - k := by simp
    have HR3 := Lib.hid hr3
    have hr4 : (l.take k ++ [f]).length = k + 1 := by have := hr2.out; simp; omega
    have HR4 := Lib.hid hr4
    clear hb3 E1 E2 F4 KB O1 E2' O2 F5 hf2 hr3 hr4 x5
    clear d0 d1 d2 d3 d4 d5 d6 d7
    obtain ⟨d0, d1, d2, d3, d4, d5, d6, d7⟩ := hE.out
    go_wp2_with (at_builtin; refine wpList_appSN fldT rfl _ _ rfl G _ (l.take k ++ [f]) (k + 1) HR4.out rfl HO2.out (l.drop k) (l.length - k) HR3.out b (o + k * 4) (c - k) rfl HFC.out (by omega) hGw ?_; intro a2 c2 w4 O3 hb4; clear d0 d1 d2 d3 d4 d5 d6 d7; have hE4 := hE.out.growB (B := G) (by omega) hb4; obtain ⟨d0, d1, d2, d3, d4, d5, d6, d7⟩ := hE4; have hZ4 := hZ.out.growB (B := G) (by omega) hb4; obtain ⟨z0, z1, z2, z3, z4, z5, z6, z7⟩ := hZ4; have hz4 : w3.heap.size ≤ w4.heap.size := hb4.size; have y1 : w.heap.size < w4.heap.size := (by omega); have KB4 := Lib.hid (KB'.out.trans (hb4.mono (by omega : w.heap.size ≤ G))); have O4 := Lib.hid O3; clear O3 hb4)
    have O5 := ((((O4.out.set (b := w.heap.size) (o := 3) (by omega) (.slice a2 (k + 1 + (l.length - k)) c2)).set (b := w.heap.size + 1 + 1 + 1) (o := 0) (by omega) (.string t)).set (b := w.heap.size + 1 + 1 + 1) (o := 1) (by omega) (.string p)).set (b := w.heap.size + 1 + 1 + 1) (o := 2) (by omega) (.int .u64 q)).set (b := w.heap.size + 1 + 1 + 1) (o := 3) (by omega) (.slice a2 (k + 1 + (l.length - k)) c2)
    obtain ⟨aa, cc, hv, hfl, _, _, hcc⟩ := O5.flds
    rw [← HIns.out] at hv hfl hcc
    obtain ⟨rfl, hln, rfl⟩ : a2 = aa ∧ k + 1 + (l.length - k) = (insB l f).length ∧ c2 = cc := by simpa using hv
    have HLN := Lib.hid hln
    have HFL := Lib.hid hfl
    have HCC := Lib.hid hcc
    clear hv hln hfl hcc O5
    refine bodyPost_ret (v := .agg #[.string t, .string p, .int .u64 q, .slice a2 (k + 1 + (l.length - k)) c2]) (by simp [results, Try.results12, go_sem, *]) rfl ⟨a2, c2, by rw [← HLN.out], HFL.out, HCC.out, ?_⟩
    exact bset _ (by simp; omega) (bset _ (by simp; omega) (bset _ (by simp; omega) (bset _ (by simp; omega) (bset _ (by simp) KB4.out))))
end Go.Proofs.Ytcbnehplilpidaa
namespace Go.Proofs.Ytcbnehplilpidaa
open Go.RowKit Tryst
set_option maxHeartbeats 400000
set_option maxRecDepth 20000
set_option maxHeartbeats 2000000 in
theorem put_end (t p : ByteArray) (q : Int) (b o c : Nat) (l : List FB) (hl : l.length ≤ 1000000000) (hc : l.length ≤ c) (f : FB) (w : World) (hF : Flds w (some ⟨b, o, none⟩) l) (hi : idxB (fun x => x.name.toList == f.name.toList) l = -1)
    (hi2 : idxB (fun x => Op.bytesLess f.name.toList x.name.toList) l = -1) (hins : insB l f = l ++ [f]) (hb : 0 < l.length → b < w.heap.size) :
    Calls Try.prog 12 #[.agg #[.string t, .string p, .int .u64 q, .slice (some ⟨b, o, none⟩) l.length c], .string f.name, .agg #[.bool f.num, .int .i64 f.n, .string f.s]] w fun e w' => EvR w t p q (insB l f) e w' := by
  have HIns := Lib.hid hins
  have HF := Lib.hid hF
  have HI := Lib.hid hi
  have HI2 := Lib.hid hi2
  obtain ⟨M, hM, hmk⟩ := makeF (l.length + 1) (by omega)
  have hmk2 : ∀ w : World, (Instr.makeSlice 23 (.int .i64 0) (.int .i64 ((l.length : Int) + 1))).run Try.prog w = .ok (.slice (some ⟨w.heap.size, 0, none⟩) 0 (l.length + 1)) (w.alloc (.cells M 39)) := fun w => by simpa using hmk w
  have HM := Lib.hid hM
  clear hF hi hi2 hins hmk hM
  go_enter Try.func12, Try.ntmps12
  go_wp2_with fail
  have PW := PutW.new w t p q (.slice (some ⟨b, o, none⟩) l.length c) f 25 9 27 25 39
  revert PW
  generalize (((((w.alloc (.cells #[.string t, .string p, .int .u64 q, .slice (some ⟨b, o, none⟩) l.length c] 25)).alloc (.cells #[.string f.name] 9)).alloc (.cells #[.bool f.num, .int .i64 f.n, .string f.s] 27)).alloc (.cells #[.string ⟨#[]⟩, .string ⟨#[]⟩, .int .u64 0, .slice none 0 0] 25)).alloc (.cells #[.string f.name, .bool f.num, .int .i64 f.n, .string f.s] 39)) = X
  intro PW
  refine (find_c t p q _ c l hl f.name X (HF.out.grow PW.b)).mono ?_
  rintro e w1 ⟨rfl, hb1⟩
  rw [HI.out]
  have PW1 := PW.grow hb1
  have HF1 := Lib.hid (HF.out.grow PW1.b)
  have hz1 := PW1.size
  have HP1 := Lib.hid PW1
  obtain ⟨c0, c1, c2, c3, c4, c5, c6, c7⟩ := PW1.e
  clear PW PW1 hb1 HF
  go_wp2_with fail
  refine (indexAbove_c f.name ⟨w.heap.size + 1, 0, none⟩ _ c l hl w1 HF1.out HP1.out.n (by show w.heap.size + 1 < _; omega)).mono ?_
  rintro e w2 ⟨rfl, hb2⟩
  rw [HI2.out]
  have PW2 := HP1.out.grow hb2
  have HF2 := Lib.hid (HF1.out.grow hb2)
  have HP2 := Lib.hid PW2
  have hz2 := PW2.size
  obtain ⟨d0, d1, d2, d3, d4, d5, d6, d7⟩ := PW2.e
  have x1 : (0 : Int) ≤ l.length := by omega
  clear PW2 hb2 HF1 HP1 c0 c1 c2 c3 c4 c5 c6 c7
  go_upto_region 11 with fail
  obtain ⟨G, hG⟩ : ∃ G, w2.heap.size = G := ⟨_, rfl⟩
  have hX : Hid (PutW w (w2.alloc (.cells M 39)) t p q (.slice (some ⟨b, o, none⟩) l.length c) f) ∧ Hid (Flds (w2.alloc (.cells M 39)) (some ⟨b, o, none⟩) l) ∧ Hid ((w2.alloc (.cells M 39)).heap[G]? = some (.cells M 39 (0, 0))) ∧ G < (w2.alloc (.cells M 39)).heap.size := by
    refine ⟨HP2.out.grow (balloc _ (.refl _ _)), HF2.out.grow (balloc _ (.refl _ _)), ?_, by simp; omega⟩
    show (w2.heap.push _)[G]? = _
    rw [← hG]; simp
  rw [hG]
  have hGz : w.heap.size + 5 ≤ G := by omega
  clear HP2 HF2 d0 d1 d2 d3 d4 d5 d6 d7 hz2 hmk2
  revert hX
  generalize w2.alloc (.cells M 39) = X3
  rintro ⟨HP, HF3, HG, hGX⟩
  clear hG
  have x2 : (l.length : Int) ≤ c := by omega
  refine Tryst3.wp_region_ext G (Tryst3.rowC 39 l M) [.is (.slice (some ⟨G, 0, none⟩) 0 (l.length + 1)), .is (.pointer (some ⟨w.heap.size, 3, none⟩)), .is (.slice (some ⟨b, o, none⟩) l.length c), .is (.int .i64 l.length), .is (.slice (some ⟨b, o, none⟩) l.length c), .any (Tryst3.App48 39 G (l.length + 1) l M), .is (.agg #[.string f.name, .bool f.num, .int .i64 f.n, .string f.s]), .any (Tryst3.OneG G f)] (by kernel_rfl) (by kernel_rfl) ?obl ?fin
  case obl =>
    simp only [Tryst2.AllObl, Tryst2.dstL, Tryst2.Obl, Tryst2.depsOf, Tryst2.binds_data, Tryst2.binds_chain, Tryst2.binds_phase, Tryst2.binds_guard, Tryst2.binds_text, Tryst2.binds_gc, Bool.false_eq_true, if_false, List.filterMap_cons_some, List.filterMap_cons_none, Tryst2.depsR, Tryst2.holdR, Tryst2.tmpsOf, Op.operands, Call.operands, Tryst3.Rsp.pred, Tryst2.wantedV_none, Tryst2.wantedV_some, if_true, List.map_cons, List.map_nil, List.length_map, List.take_succ_cons, List.take_zero, List.length_cons, List.length_nil, List.getElem?_cons_zero, List.getElem?_cons_succ, Option.bind_some, id, List.getD_cons_zero, List.getD_cons_succ, Tryst2.isDst, List.filterMap_cons, List.filterMap_nil, List.toList_toArray]
    repeat' apply And.intro
    any_goals trivial
    all_goals (intro tv w' hg hold hd; (try simp at hold); obtain ⟨e0, e1, e2, e3, e4, e5, e6, e7⟩ := hg.ev (b := w.heap.size) (EAt.mk HP.out.e.c0 HP.out.e.c1 HP.out.e.c2 HP.out.e.c3 HP.out.e.f0 HP.out.e.f1 HP.out.e.f2 HP.out.e.f3) (by show w.heap.size < X3.heap.size; omega) (by omega); have hgs : X3.heap.size ≤ w'.heap.size := hg.size; obtain ⟨f0, f1, f2, f3⟩ := hg.fat (b := w.heap.size + 1 + 1 + 1 + 1) (o := 0) (f := f) (FAt.mk HP.out.fa.c0 HP.out.fa.c1 HP.out.fa.c2 HP.out.fa.c3) (by show w.heap.size + 1 + 1 + 1 + 1 < X3.heap.size; omega) (by omega); simp only [Nat.zero_add] at f1 f2 f3)
    all_goals first | (go_simp; done) | (go_simp; rw [if_neg (by omega)]; exact ⟨.refl _ _ _, rfl⟩) | (go_simp; exact Tryst3.oneG G _ f _ _ (by omega)) | (refine Tryst3.step48 (w := X3.drew) fldT (.tmp 43) (.tmp 47) rfl G (l.length + 1) M l HM.out (show X3.drew.heap[G]? = _ from HG.out) hg hd.1 l.length b o c rfl hd.2.1 (flds_cells (hg.flds0 (l := l) (b := b) (o := o) (Flds.drew HF3.out) (fun h => by have := hb h; omega))) (by omega))
  case fin =>
    intro tv w' hg hR
    simp only [Tryst2.allR, Tryst2.dstL, Tryst3.Rsp.pred, List.map_cons, List.map_nil, List.take_succ_cons, List.take_zero, List.length_cons, List.length_nil, List.tail_cons, List.toList_toArray] at hR
    simp only [Tryst2.putAll, Tryst2.dstL, List.map_cons, List.map_nil, List.take_succ_cons, List.take_zero, List.length_cons, List.length_nil, List.toList_toArray, List.drop_succ_cons, List.drop_zero, Act.put, List.setIfInBounds_toArray, List.set_cons_zero, List.set_cons_succ, hR]
    obtain ⟨e48, h48⟩ := Tryst3.App48.at hR.2.2.2.2.2.1
    obtain ⟨g2, e50, hg2, hf2⟩ := Tryst3.OneG.at hR.2.2.2.2.2.2.2.1
    simp only [e48, e50]
    have hgs : X3.heap.size ≤ w'.heap.size := hg.size
    have E1 := hg.ev (b := w.heap.size) (EAt.mk HP.out.e.c0 HP.out.e.c1 HP.out.e.c2 HP.out.e.c3 HP.out.e.f0 HP.out.e.f1 HP.out.e.f2 HP.out.e.f3) (by show w.heap.size < X3.heap.size; omega) (by omega)
    have E2 := hg.ev (b := w.heap.size + 1 + 1 + 1) (EAt.mk HP.out.z.c0 HP.out.z.c1 HP.out.z.c2 HP.out.z.c3 HP.out.z.f0 HP.out.z.f1 HP.out.z.f2 HP.out.z.f3) (by show w.heap.size + 1 + 1 + 1 < X3.heap.size; omega) (by omega)
    have F4 := hg.flds0 (l := l) (b := b) (o := o) (Flds.drew HF3.out) (fun h => by have := hb h; omega)
    have KB : Below w.heap.size w w' := (HP.out.b.drew).trans (hg.below (B := w.heap.size) (by omega) (by show w.heap.size ≤ X3.heap.size; omega))
    have O1 : FOwn 39 w' G (.slice (some ⟨G, 0, none⟩) l.length (l.length + 1)) l := Tryst3.own48 (base := G) h48 HM.out (by omega) (Nat.le_refl _) (by unfold maxLen; omega)
    clear hR hg HP HF3 HG e48 e50 h48
    refine wpList_appN fldT rfl _ _ rfl G _ l l.length rfl rfl O1 f g2 rfl hf2 (by omega) (by omega) ?_
    intro a' c' w3 O2 hb3
    have hz3 : w'.heap.size ≤ w3.heap.size := hb3.size
    have E1' := E1.growB (B := G) (by omega) hb3
    have E2' := E2.growB (B := G) (by omega) hb3
    have KB' := Lib.hid (KB.trans (hb3.mono (by omega)))
    obtain ⟨d0, d1, d2, d3, d4, d5, d6, d7⟩ := E1'
    have hZ := Lib.hid E2'
    have hE := Lib.hid (EAt.mk d0 d1 d2 d3 d4 d5 d6 d7)
    have HO2 := Lib.hid O2
    have hGw : G ≤ w3.heap.size := by omega
    have hr4 : (l ++ [f]).length = l.length + 1 := by simp
    have HR4 := Lib.hid hr4
    clear hb3 E1 E2 F4 KB O1 E2' O2 hf2 hr4
    clear d0 d1 d2 d3 d4 d5 d6 d7
    obtain ⟨d0, d1, d2, d3, d4, d5, d6, d7⟩ := hE.out
    by_cases hcl : c = l.length
    · subst hcl
      go_wp2_with (at_builtin; refine wpList_appSN fldT rfl _ _ rfl G _ (l ++ [f]) (l.length + 1) HR4.out rfl HO2.out [] 0 rfl _ _ _ rfl (fun j u h => by simp at h) (by omega) hGw ?_; intro a2 c2 w4 O3 hb4; clear d0 d1 d2 d3 d4 d5 d6 d7; have hE4 := hE.out.growB (B := G) (by omega) hb4; obtain ⟨d0, d1, d2, d3, d4, d5, d6, d7⟩ := hE4; have hZ4 := hZ.out.growB (B := G) (by omega) hb4; obtain ⟨z0, z1, z2, z3, z4, z5, z6, z7⟩ := hZ4; have hz4 : w3.heap.size ≤ w4.heap.size := hb4.size; have y1 : w.heap.size < w4.heap.size := (by omega); have KB4 := Lib.hid (KB'.out.trans (hb4.mono (by omega : w.heap.size ≤ G))); have O4 := Lib.hid O3; clear O3 hb4)
      have O5 := ((((O4.out.set (b := w.heap.size) (o := 3) (by omega) (.slice a2 (l.length + 1) c2)).set (b := w.heap.size + 1 + 1 + 1) (o := 0) (by omega) (.string t)).set (b := w.heap.size + 1 + 1 + 1) (o := 1) (by omega) (.string p)).set (b := w.heap.size + 1 + 1 + 1) (o := 2) (by omega) (.int .u64 q)).set (b := w.heap.size + 1 + 1 + 1) (o := 3) (by omega) (.slice a2 (l.length + 1) c2)
      rw [List.append_nil] at O5
      obtain ⟨aa, cc, hv, hfl, _, _, hcc⟩ := O5.flds
      rw [← HIns.out] at hv hfl hcc
      obtain ⟨rfl, hln, rfl⟩ : a2 = aa ∧ l.length + 1 = (insB l f).length ∧ c2 = cc := by simpa using hv
      have HLN := Lib.hid hln
      have HFL := Lib.hid hfl
      have HCC := Lib.hid hcc
      clear hv hln hfl hcc O5
      refine bodyPost_ret (v := .agg #[.string t, .string p, .int .u64 q, .slice a2 (l.length + 1) c2]) (by simp [results, Try.results12, go_sem, *]) rfl ⟨a2, c2, by rw [← HLN.out], HFL.out, HCC.out, ?_⟩
      exact bset _ (by simp; omega) (bset _ (by simp; omega) (bset _ (by simp; omega) (bset _ (by simp; omega) (bset _ (by simp) KB4.out))))
    · go_wp2_with (at_builtin; refine wpList_appSN fldT rfl _ _ rfl G _ (l ++ [f]) (l.length + 1) HR4.out rfl HO2.out [] 0 rfl _ _ _ rfl (fun j u h => by simp at h) (by omega) hGw ?_; intro a2 c2 w4 O3 hb4; clear d0 d1 d2 d3 d4 d5 d6 d7; have hE4 := hE.out.growB (B := G) (by omega) hb4; obtain ⟨d0, d1, d2, d3, d4, d5, d6, d7⟩ := hE4; have hZ4 := hZ.out.growB (B := G) (by omega) hb4; obtain ⟨z0, z1, z2, z3, z4, z5, z6, z7⟩ := hZ4; have hz4 : w3.heap.size ≤ w4.heap.size := hb4.size; have y1 : w.heap.size < w4.heap.size := (by omega); have KB4 := Lib.hid (KB'.out.trans (hb4.mono (by omega : w.heap.size ≤ G))); have O4 := Lib.hid O3; clear O3 hb4)
      have O5 := ((((O4.out.set (b := w.heap.size) (o := 3) (by omega) (.slice a2 (l.length + 1) c2)).set (b := w.heap.size + 1 + 1 + 1) (o := 0) (by omega) (.string t)).set (b := w.heap.size + 1 + 1 + 1) (o := 1) (by omega) (.string p)).set (b := w.heap.size + 1 + 1 + 1) (o := 2) (by omega) (.int .u64 q)).set (b := w.heap.size + 1 + 1 + 1) (o := 3) (by omega) (.slice a2 (l.length + 1) c2)
      rw [List.append_nil] at O5
      obtain ⟨aa, cc, hv, hfl, _, _, hcc⟩ := O5.flds
      rw [← HIns.out] at hv hfl hcc
      obtain ⟨rfl, hln, rfl⟩ : a2 = aa ∧ l.length + 1 = (insB l f).length ∧ c2 = cc := by simpa using hv
      have HLN := Lib.hid hln
      have HFL := Lib.hid hfl
      have HCC := Lib.hid hcc
      clear hv hln hfl hcc O5
      refine bodyPost_ret (v := .agg #[.string t, .string p, .int .u64 q, .slice a2 (l.length + 1) c2]) (by simp [results, Try.results12, go_sem, *]) rfl ⟨a2, c2, by rw [← HLN.out], HFL.out, HCC.out, ?_⟩
      exact bset _ (by simp; omega) (bset _ (by simp; omega) (bset _ (by simp; omega) (bset _ (by simp; omega) (bset _ (by simp) KB4.out))))
end Go.Proofs.Ytcbnehplilpidaa
namespace Go.Proofs.Ytcbnehplilpidaa
open Go.RowKit Tryst
set_option maxHeartbeats 400000
set_option maxRecDepth 20000
set_option maxHeartbeats 2000000 in
theorem put_nil (t p : ByteArray) (q : Int) (f : FB) (w : World) :
    Calls Try.prog 12 #[.agg #[.string t, .string p, .int .u64 q, .slice none 0 0], .string f.name, .agg #[.bool f.num, .int .i64 f.n, .string f.s]] w fun e w' => EvR w t p q [f] e w' := by
  obtain ⟨M, hM, hmk⟩ := makeF 1 (by omega)
  have hmk2 : ∀ w : World, (Instr.makeSlice 23 (.int .i64 0) (.int .i64 1)).run Try.prog w = .ok (.slice (some ⟨w.heap.size, 0, none⟩) 0 1) (w.alloc (.cells M 39)) := fun w => by simpa using hmk w
  have HM := Lib.hid hM
  clear hmk hM
  go_enter Try.func12, Try.ntmps12
  go_wp2_with fail
  have PW := PutW.new w t p q (.slice none 0 0) f 25 9 27 25 39
  revert PW
  generalize (((((w.alloc (.cells #[.string t, .string p, .int .u64 q, .slice none 0 0] 25)).alloc (.cells #[.string f.name] 9)).alloc (.cells #[.bool f.num, .int .i64 f.n, .string f.s] 27)).alloc (.cells #[.string ⟨#[]⟩, .string ⟨#[]⟩, .int .u64 0, .slice none 0 0] 25)).alloc (.cells #[.string f.name, .bool f.num, .int .i64 f.n, .string f.s] 39)) = X
  intro PW
  refine (find_c t p q none 0 [] (by simp) f.name X (Flds.nil _ _)).mono ?_
  rintro e w1 ⟨rfl, hb1⟩
  rw [show idxB (fun x => x.name.toList == f.name.toList) [] = -1 from rfl]
  have PW1 := PW.grow hb1
  have hz1 := PW1.size
  have HP1 := Lib.hid PW1
  obtain ⟨c0, c1, c2, c3, c4, c5, c6, c7⟩ := PW1.e
  clear PW PW1 hb1
  go_wp2_with fail
  refine (indexAbove_c f.name ⟨w.heap.size + 1, 0, none⟩ none 0 [] (by simp) w1 (Flds.nil _ _) HP1.out.n (by show w.heap.size + 1 < _; omega)).mono ?_
  rintro e w2 ⟨rfl, hb2⟩
  rw [show idxB (fun x => Op.bytesLess f.name.toList x.name.toList) [] = -1 from rfl]
  have PW2 := HP1.out.grow hb2
  have HP2 := Lib.hid PW2
  have hz2 := PW2.size
  obtain ⟨d0, d1, d2, d3, d4, d5, d6, d7⟩ := PW2.e
  clear PW2 hb2 HP1 c0 c1 c2 c3 c4 c5 c6 c7
  go_upto_region 11 with fail
  obtain ⟨G, hG⟩ : ∃ G, w2.heap.size = G := ⟨_, rfl⟩
  have hX : Hid (PutW w (w2.alloc (.cells M 39)) t p q (.slice none 0 0) f) ∧ Hid ((w2.alloc (.cells M 39)).heap[G]? = some (.cells M 39 (0, 0))) ∧ G < (w2.alloc (.cells M 39)).heap.size := by
    refine ⟨HP2.out.grow (balloc _ (.refl _ _)), ?_, by simp; omega⟩
    show (w2.heap.push _)[G]? = _
    rw [← hG]; simp
  rw [hG]
  have hGz : w.heap.size + 5 ≤ G := by omega
  clear HP2 d0 d1 d2 d3 d4 d5 d6 d7 hz2 hmk2
  revert hX
  generalize w2.alloc (.cells M 39) = X3
  rintro ⟨HP, HG, hGX⟩
  clear hG
  refine Tryst3.wp_region_ext G (.cells M 39 (0, 0)) [.is (.slice (some ⟨G, 0, none⟩) 0 1), .is (.pointer (some ⟨w.heap.size, 3, none⟩)), .is (.slice none 0 0), .is (.int .i64 0), .is (.slice none 0 0), .is (.slice (some ⟨G, 0, none⟩) 0 1), .is (.agg #[.string f.name, .bool f.num, .int .i64 f.n, .string f.s]), .any (Tryst3.OneG G f)] (by kernel_rfl) (by kernel_rfl) ?obl ?fin
  case obl =>
    simp only [Tryst2.AllObl, Tryst2.dstL, Tryst2.Obl, Tryst2.depsOf, Tryst2.binds_data, Tryst2.binds_chain, Tryst2.binds_phase, Tryst2.binds_guard, Tryst2.binds_text, Tryst2.binds_gc, Bool.false_eq_true, if_false, List.filterMap_cons_some, List.filterMap_cons_none, Tryst2.depsR, Tryst2.holdR, Tryst2.tmpsOf, Op.operands, Call.operands, Tryst3.Rsp.pred, Tryst2.wantedV_none, Tryst2.wantedV_some, if_true, List.map_cons, List.map_nil, List.length_map, List.take_succ_cons, List.take_zero, List.length_cons, List.length_nil, List.getElem?_cons_zero, List.getElem?_cons_succ, Option.bind_some, id, List.getD_cons_zero, List.getD_cons_succ, Tryst2.isDst, List.filterMap_cons, List.filterMap_nil, List.toList_toArray]
    repeat' apply And.intro
    any_goals trivial
    all_goals (intro tv w' hg hold hd; (try simp at hold); obtain ⟨e0, e1, e2, e3, e4, e5, e6, e7⟩ := hg.ev (b := w.heap.size) (EAt.mk HP.out.e.c0 HP.out.e.c1 HP.out.e.c2 HP.out.e.c3 HP.out.e.f0 HP.out.e.f1 HP.out.e.f2 HP.out.e.f3) (by show w.heap.size < X3.heap.size; omega) (by omega); have hgs : X3.heap.size ≤ w'.heap.size := hg.size; obtain ⟨f0, f1, f2, f3⟩ := hg.fat (b := w.heap.size + 1 + 1 + 1 + 1) (o := 0) (f := f) (FAt.mk HP.out.fa.c0 HP.out.fa.c1 HP.out.fa.c2 HP.out.fa.c3) (by show w.heap.size + 1 + 1 + 1 + 1 < X3.heap.size; omega) (by omega); simp only [Nat.zero_add] at f1 f2 f3)
    all_goals first | (go_simp; done) | (go_simp; rw [if_neg (by omega)]; exact ⟨.refl _ _ _, rfl⟩) | (go_simp; exact Tryst3.oneG G _ f _ _ (by omega))
  case fin =>
    intro tv w' hg hR
    simp only [Tryst2.allR, Tryst2.dstL, Tryst3.Rsp.pred, List.map_cons, List.map_nil, List.take_succ_cons, List.take_zero, List.length_cons, List.length_nil, List.tail_cons, List.toList_toArray] at hR
    simp only [Tryst2.putAll, Tryst2.dstL, List.map_cons, List.map_nil, List.take_succ_cons, List.take_zero, List.length_cons, List.length_nil, List.toList_toArray, List.drop_succ_cons, List.drop_zero, Act.put, List.setIfInBounds_toArray, List.set_cons_zero, List.set_cons_succ, hR]
    obtain ⟨g2, e50, hg2, hf2⟩ := Tryst3.OneG.at hR.2.2.2.2.2.2.2.1
    simp only [e50]
    have hgs : X3.heap.size ≤ w'.heap.size := hg.size
    have E1 := hg.ev (b := w.heap.size) (EAt.mk HP.out.e.c0 HP.out.e.c1 HP.out.e.c2 HP.out.e.c3 HP.out.e.f0 HP.out.e.f1 HP.out.e.f2 HP.out.e.f3) (by show w.heap.size < X3.heap.size; omega) (by omega)
    have E2 := hg.ev (b := w.heap.size + 1 + 1 + 1) (EAt.mk HP.out.z.c0 HP.out.z.c1 HP.out.z.c2 HP.out.z.c3 HP.out.z.f0 HP.out.z.f1 HP.out.z.f2 HP.out.z.f3) (by show w.heap.size + 1 + 1 + 1 < X3.heap.size; omega) (by omega)
    have KB : Below w.heap.size w w' := (HP.out.b.drew).trans (hg.below (B := w.heap.size) (by omega) (by show w.heap.size ≤ X3.heap.size; omega))
    have hrow : w'.heap[G]? = some (.cells M 39 (0, 0)) := by
      rcases hg.row with h | h
      · exact h.trans HG.out
      · exact h
    have O1 : FOwn 39 w' G (.slice (some ⟨G, 0, none⟩) 0 1) [] := Tryst3.own_made hrow HM.out (by unfold maxLen; omega)
    clear hR hg HP HG e50 hrow
    refine wpList_appN fldT rfl _ _ rfl G _ [] 0 rfl rfl O1 f g2 rfl hf2 (by omega) (by omega) ?_
    intro a' c' w3 O2 hb3
    have hz3 : w'.heap.size ≤ w3.heap.size := hb3.size
    have E1' := E1.growB (B := G) (by omega) hb3
    have E2' := E2.growB (B := G) (by omega) hb3
    have KB' := Lib.hid (KB.trans (hb3.mono (by omega)))
    obtain ⟨z0, z1, z2, z3, z4, z5, z6, z7⟩ := E2'
    obtain ⟨d0, d1, d2, d3, d4, d5, d6, d7⟩ := E1'
    have hGw : G ≤ w3.heap.size := by omega
    rw [List.nil_append] at O2
    obtain ⟨g3, rfl, _, hg3, _⟩ := FOwn.row (l := [f]) O2 (by simp)
    have O5 := ((((O2.set (b := w.heap.size) (o := 3) (by omega) (.slice (some ⟨g3, 0, none⟩) (0 + 1) c')).set (b := w.heap.size + 1 + 1 + 1) (o := 0) (by omega) (.string t)).set (b := w.heap.size + 1 + 1 + 1) (o := 1) (by omega) (.string p)).set (b := w.heap.size + 1 + 1 + 1) (o := 2) (by omega) (.int .u64 q)).set (b := w.heap.size + 1 + 1 + 1) (o := 3) (by omega) (.slice (some ⟨g3, 0, none⟩) (0 + 1) c')
    obtain ⟨aa, cc, hv, hfl, _, _, hcc⟩ := O5.flds
    obtain ⟨rfl, rfl⟩ : some (⟨g3, 0, none⟩ : Addr) = aa ∧ c' = cc := by simpa using hv
    simp only [Nat.zero_add] at hfl hcc
    have HFL := Lib.hid hfl
    have HCC := Lib.hid hcc
    have y1 : w.heap.size < w3.heap.size := by omega
    have hc1 : 1 ≤ c' := by have := HCC.out.cap; simpa using this
    clear hv hfl hcc O5 O2 hb3 E1 E2 KB O1 hf2
    go_wp2_with fail
    refine bodyPost_ret (v := .agg #[.string t, .string p, .int .u64 q, .slice (some ⟨g3, 0, none⟩) 1 c']) (by simp [results, Try.results12, go_sem, *]) rfl ⟨_, c', rfl, HFL.out, HCC.out, ?_⟩
    exact bset _ (by simp; omega) (bset _ (by simp; omega) (bset _ (by simp; omega) (bset _ (by simp; omega) (bset _ (by simp) KB'.out))))
end Go.Proofs.Ytcbnehplilpidaa
namespace Go.Proofs.Ytcbnehplilpidaa
open Go.RowKit Tryst
set_option maxHeartbeats 400000
set_option maxRecDepth 20000
theorem idx_find {l : List FB} {n : ByteArray} (h : idxB (fun f => f.name.toList == n.toList) l = -1) : findB l n = none := by
  rcases idx_cases l n with ⟨k, _, h1, _⟩ | ⟨_, h2⟩
  · rw [h1] at h; omega
  · exact h2
theorem put_c (t p : ByteArray) (q : Int) (a : Option Addr) (c : Nat) (l : List FB) (hl : l.length ≤ 1000000000) (hS : Sl a c l.length) (f : FB) (w : World) (hF : Flds w a l) :
    Calls Try.prog 12 #[.agg #[.string t, .string p, .int .u64 q, .slice a l.length c], .string f.name, .agg #[.bool f.num, .int .i64 f.n, .string f.s]] w fun e w' => EvR w t p q (putB l f) e w' := by
  obtain ⟨hc, hs, hz⟩ := hS
  cases a with
  | none =>
    have := hz rfl
    subst this
    have : l = [] := List.eq_nil_of_length_eq_zero (by omega)
    subst this
    exact put_nil t p q f w
  | some A =>
    obtain ⟨b, o, s⟩ := A
    have hs' : s = none := hs _ rfl
    subst hs'
    have hb : 0 < l.length → b < w.heap.size := fun h => by
      obtain ⟨b', o', h1, h2⟩ := hF.head h
      cases h1
      exact h2
    rcases idx_cases l f.name with ⟨k, hk, h1, h2⟩ | ⟨h1, h2⟩
    · rw [show putB l f = setB l f by unfold putB; rw [h2]; rfl]
      exact put_found t p q b o c l hl f w hF k hk h1 (hb (by omega))
    · rw [show putB l f = insB l f by unfold putB; rw [h2]; rfl]
      rcases above_cases l f with ⟨k, hk, g1, g2⟩ | ⟨g1, g2⟩
      · exact put_new t p q b o c l hl hc f w hF k hk h1 g1 g2 (hb (by omega))
      · exact put_end t p q b o c l hl hc f w hF h1 g1 g2 hb
end Go.Proofs.Ytcbnehplilpidaa
