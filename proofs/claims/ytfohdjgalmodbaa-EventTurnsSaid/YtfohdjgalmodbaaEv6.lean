/- The walk of Put where the field is there. -/
import Derived.Test.YtfohdjgalmodbaaProg
import Derived.WalkKit
import Derived.WalkSpells
import Derived.WalkLawsBesides
import Derived.Lib.Hide
import Derived.Deep.RegionWith
import Derived.Deep.Cut
import Derived.Test.YtfohdjgalmodbaaOwnF
import Derived.Test.YtfohdjgalmodbaaEv2
import Derived.Test.YtfohdjgalmodbaaEv3
import Derived.Test.YtfohdjgalmodbaaEv4
import Derived.Test.YtfohdjgalmodbaaEv5
import Derived.Test.YtfohdjgalmodbaaPutB
import Derived.Test.YtfohdjgalmodbaaDrawE
set_option linter.unusedVariables false
set_option linter.unusedSimpArgs false
namespace Go.Proofs.Ytfohdjgalmodbaa
open Go.RowKit Tryst
set_option maxHeartbeats 400000
set_option maxRecDepth 20000
theorem findB_idx {l : List FB} {n : ByteArray} {k : Nat} (hk : k < l.length) (h : idxB (fun f => f.name.toList == n.toList) l = k) : l[k].name.data.toList = n.data.toList ∧ ∀ (j : Nat) (h : j < l.length), j < k → l[j].name.data.toList ≠ n.data.toList := by
  unfold idxB at h
  cases e : l.findIdx? (fun f => f.name.toList == n.toList) with
  | none => rw [e] at h; simp at h
  | some i =>
    rw [e] at h
    have h' : i = k := by
      have h3 : (i : Int) = k := by simpa using h
      omega
    subst h'
    obtain ⟨_, h1, h2⟩ := List.findIdx?_eq_some_iff_getElem.1 e
    refine ⟨?_, fun j hj hlt hne => h2 j hlt (strEq hne)⟩
    have := beq_iff_eq.1 h1
    rwa [str_toList, str_toList] at this
theorem setAt {w : World} {b o : Nat} {l : List FB} {k : Nat} (hk : k < l.length) (h : Flds w (some ⟨b, o, none⟩) l) (f : FB) :
    Flds ((((w.setCell ⟨b, o + k * 4, none⟩ (.string f.name)).setCell ⟨b, o + k * 4 + 1, none⟩ (.bool f.num)).setCell ⟨b, o + k * 4 + 2, none⟩ (.int .i64 f.n)).setCell ⟨b, o + k * 4 + 3, none⟩ (.string f.s)) (some ⟨b, o, none⟩) (l.set k f) := by
  intro i hi
  have hi' : i < l.length := by simpa using hi
  obtain ⟨hb, f0, f1, f2, f3⟩ := h.at hi'
  obtain ⟨_, g0, g1, g2, g3⟩ := h.at hk
  refine ⟨b, o, rfl, by simpa using hb, ?_⟩
  by_cases e : k = i
  · subst e
    rw [List.getElem_set_self]
    constructor <;> simp [cell_setCell, g0, g1, g2, g3]
  · rw [List.getElem_set_ne e]
    have e0 : ∀ x y, x < 4 → y < 4 → ¬ o + k * 4 + x = o + i * 4 + y := fun x y hx hy => by omega
    have q00 := e0 0 0 (by omega) (by omega); have q01 := e0 0 1 (by omega) (by omega); have q02 := e0 0 2 (by omega) (by omega); have q03 := e0 0 3 (by omega) (by omega)
    have q10 := e0 1 0 (by omega) (by omega); have q11 := e0 1 1 (by omega) (by omega); have q12 := e0 1 2 (by omega) (by omega); have q13 := e0 1 3 (by omega) (by omega)
    have q20 := e0 2 0 (by omega) (by omega); have q21 := e0 2 1 (by omega) (by omega); have q22 := e0 2 2 (by omega) (by omega); have q23 := e0 2 3 (by omega) (by omega)
    have q30 := e0 3 0 (by omega) (by omega); have q31 := e0 3 1 (by omega) (by omega); have q32 := e0 3 2 (by omega) (by omega); have q33 := e0 3 3 (by omega) (by omega)
    simp only [Nat.add_zero] at q00 q01 q02 q03 q10 q20 q30
    constructor
    · rw [cell_setCell, if_neg (fun h => q30 h.2), cell_setCell, if_neg (fun h => q20 h.2), cell_setCell, if_neg (fun h => q10 h.2), cell_setCell, if_neg (fun h => q00 h.2)]; exact f0
    · rw [cell_setCell, if_neg (fun h => q31 h.2), cell_setCell, if_neg (fun h => q21 h.2), cell_setCell, if_neg (fun h => q11 h.2), cell_setCell, if_neg (fun h => q01 h.2)]; exact f1
    · rw [cell_setCell, if_neg (fun h => q32 h.2), cell_setCell, if_neg (fun h => q22 h.2), cell_setCell, if_neg (fun h => q12 h.2), cell_setCell, if_neg (fun h => q02 h.2)]; exact f2
    · rw [cell_setCell, if_neg (fun h => q33 h.2), cell_setCell, if_neg (fun h => q23 h.2), cell_setCell, if_neg (fun h => q13 h.2), cell_setCell, if_neg (fun h => q03 h.2)]; exact f3
set_option maxHeartbeats 2000000 in
theorem put_found (t p : ByteArray) (q : Int) (b o c : Nat) (l : List FB) (hl : l.length ≤ 1000000000) (f : FB) (w : World) (hF : Flds w (some ⟨b, o, none⟩) l) (k : Nat) (hk : k < l.length) (hi : idxB (fun x => x.name.toList == f.name.toList) l = k) (hb : b < w.heap.size) :
    Calls Try.prog 15 #[.agg #[.string t, .string p, .int .u64 q, .slice (some ⟨b, o, none⟩) l.length c], .string f.name, .agg #[.bool f.num, .int .i64 f.n, .string f.s]] w fun e w' => EvR w t p q (setB l f) e w' := by
  have hset := setB_at l f k hk (findB_idx hk hi).1 (findB_idx hk hi).2
  have HSet := Lib.hid hset
  have HF := Lib.hid hF
  have HI := Lib.hid hi
  clear hF hi hset
  go_enter Try.func15, Try.ntmps15
  go_wp2_with fail
  have PW := PutW.new w t p q (.slice (some ⟨b, o, none⟩) l.length c) f 25 9 27 25 42
  revert PW
  generalize (((((w.alloc (.cells #[.string t, .string p, .int .u64 q, .slice (some ⟨b, o, none⟩) l.length c] 25)).alloc (.cells #[.string f.name] 9)).alloc (.cells #[.bool f.num, .int .i64 f.n, .string f.s] 27)).alloc (.cells #[.string ⟨#[]⟩, .string ⟨#[]⟩, .int .u64 0, .slice none 0 0] 25)).alloc (.cells #[.string f.name, .bool f.num, .int .i64 f.n, .string f.s] 42)) = X
  intro PW
  refine (find_c t p q _ c l hl f.name X (HF.out.grow PW.b)).mono ?_
  rintro e w1 ⟨rfl, hb1⟩
  rw [HI.out]
  have PW1 := PW.grow hb1
  have HF1 := Lib.hid (HF.out.grow PW1.b)
  have hz1 := PW1.size
  have x1 : (0 : Int) ≤ k := by omega
  have HP1 := Lib.hid PW1
  obtain ⟨c0, c1, c2, c3, c4, c5, c6, c7⟩ := PW1.e
  clear PW PW1 hb1 HF
  go_wp2_with fail
  refine (clone_c b o c l hl (by omega) w1 HF1.out).mono ?_
  rintro e w2 ⟨a', c', rfl, ho, hb2⟩
  obtain ⟨g, rfl, hg1, hg2, hg3⟩ := ho.row (by omega)
  have PW2 := HP1.out.grow hb2
  have hO := ho.set (b := w.heap.size) (o := 3) (by omega) (.slice (some ⟨g, 0, none⟩) l.length c')
  have y1 : w.heap.size < w2.heap.size := by have := hb2.size; omega
  obtain ⟨_, _, hv, hF3, _, _, hcc⟩ := ho.flds
  obtain ⟨rfl, rfl⟩ : some (⟨g, 0, none⟩ : Addr) = _ ∧ c' = _ := by simpa using hv
  have n1 : ¬ w.heap.size = g := by omega
  have n2 : ¬ g = w.heap.size := by omega
  have n3 : ¬ w.heap.size + 1 + 1 + 1 = g := by omega
  have n4 : ¬ g = w.heap.size + 1 + 1 + 1 := by omega
  have n5 : ¬ w.heap.size + 1 + 1 + 1 + 1 = g := by omega
  have n6 : ¬ g = w.heap.size + 1 + 1 + 1 + 1 := by omega
  have hF4 := ((((setAt hk (hF3.set (c := w.heap.size) (j := 3) n1 (.slice (some ⟨g, 0, none⟩) l.length c')) f).set (c := w.heap.size + 1 + 1 + 1) (j := 0) n3 (.string t)).set (c := w.heap.size + 1 + 1 + 1) (j := 1) n3 (.string p)).set (c := w.heap.size + 1 + 1 + 1) (j := 2) n3 (.int .u64 q)).set (c := w.heap.size + 1 + 1 + 1) (j := 3) n3 (.slice (some ⟨g, 0, none⟩) l.length c')
  obtain ⟨_, k0, k1, k2, k3⟩ := hF3.at hk
  simp only [Nat.zero_add] at k0 k1 k2 k3 hF4
  rw [← HSet.out] at hF4
  have HF4 := Lib.hid hF4
  have HP2 := Lib.hid PW2
  obtain ⟨d0, d1, d2, d3, d4, d5, d6, d7⟩ := PW2.e
  obtain ⟨f0, f1, f2, f3⟩ := PW2.fa
  obtain ⟨z0, z1, z2, z3, z4, z5, z6, z7⟩ := PW2.z
  simp only [Nat.zero_add] at f1 f2 f3
  have hz2 := PW2.size
  have r0 := hg3 (k * 4)
  have r1 := hg3 (k * 4 + 1)
  have r2 := hg3 (k * 4 + 2)
  have r3 := hg3 (k * 4 + 3)
  have x3 : (k : Int) < l.length := by omega
  have hlen : l.length = (setB l f).length := (setB_length l f).symm
  have HLN := Lib.hid hlen
  clear ho hO hv hF3 PW2 hb2 c0 c1 c2 c3 c4 c5 c6 c7 HF1 hg3 hF4 hlen HP1
  go_wp2_with fail
  refine bodyPost_ret (v := .agg #[.string t, .string p, .int .u64 q, .slice (some ⟨g, 0, none⟩) l.length c']) (by simp [results, Try.results15, go_sem, *]) rfl ⟨some ⟨g, 0, none⟩, c', by rw [← HLN.out], HF4.out, by rw [← HLN.out]; exact hcc, ?_⟩
  exact bset _ (by simp; omega) (bset _ (by simp; omega) (bset _ (by simp; omega) (bset _ (by simp; omega) (bset _ (by simp; omega) (bset _ (by simp; omega) (bset _ (by simp; omega) (bset _ (by simp; omega) (bset _ (by simp) HP2.out.b))))))))
end Go.Proofs.Ytfohdjgalmodbaa
