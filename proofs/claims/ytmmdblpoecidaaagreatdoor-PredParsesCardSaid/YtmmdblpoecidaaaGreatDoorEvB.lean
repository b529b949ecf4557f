/- The walks of event.Put. -/
import Derived.Test.YtmmdblpoecidaaaGreatDoorProg
import Derived.WalkKit
import Derived.WalkSpells
import Derived.WalkLawsBesides
import Derived.Lib.Hide
import Derived.Deep.RegionWith
import Derived.Deep.Cut
import Derived.Test.YtmmdblpoecidaaaGreatDoorFldG
import Derived.Test.YtmmdblpoecidaaaGreatDoorEv3
import Derived.Test.YtmmdblpoecidaaaGreatDoorEvA
import Derived.Test.YtmmdblpoecidaaaGreatDoorDraws
set_option linter.unusedVariables false
set_option linter.unusedSimpArgs false
namespace Go.Proofs.YtmmdblpoecidaaaGreatDoor
open Go.RowKit Tryst
set_option maxHeartbeats 400000
set_option maxRecDepth 20000
def CloneR (w : World) (l : List FB) (e : Ending) (w' : World) : Prop := ∃ a c, e = .returned (.slice a l.length c) ∧ FOwn 52 w' w.heap.size (.slice a l.length c) l ∧ Below w.heap.size w w'
theorem flds_cells {w : World} {b o : Nat} {l : List FB} (h : Flds w (some ⟨b, o, none⟩) l) : ∀ (j : Nat) u, (l.flatMap FB.cells)[j]? = some u → w.cell? ((⟨b, o, none⟩ : Addr).add j) = some u := by
  intro j u hj
  have hjl : j < l.length * 4 := by rw [← flat_len]; exact (List.getElem?_eq_some_iff.1 hj).1
  have hi : j / 4 < l.length := by omega
  obtain ⟨_, f0, f1, f2, f3⟩ := h.at hi
  have e := flat_at l (j / 4) hi (j % 4) (by omega)
  rw [show j / 4 * 4 + j % 4 = j by omega, hj] at e
  rw [Addr.add_lit]
  have hm : j % 4 = 0 ∨ j % 4 = 1 ∨ j % 4 = 2 ∨ j % 4 = 3 := by omega
  rcases hm with hm | hm | hm | hm <;> rw [hm] at e <;> simp [FB.cells] at e <;> subst e
  · rw [show o + j = o + j / 4 * 4 by omega]; exact f0
  · rw [show o + j = o + j / 4 * 4 + 1 by omega]; exact f1
  · rw [show o + j = o + j / 4 * 4 + 2 by omega]; exact f2
  · rw [show o + j = o + j / 4 * 4 + 3 by omega]; exact f3
theorem _root_.Tryst.FOwn.empty (e : TypeId) (w : World) (base : Nat) (h : base ≤ w.heap.size) : FOwn e (w.alloc (.cells #[] e)) base (.slice (some ⟨w.heap.size, 0, none⟩) 0 0) [] := by
  refine ⟨rfl, .inr ⟨w.heap.size, 0, #[], rfl, h, ?_, Nat.le_refl _, by unfold maxLen; omega, rfl, rfl⟩⟩
  show (w.heap.push _)[w.heap.size]? = _; simp
theorem cells_one (l : List FB) : ∀ u ∈ l.flatMap FB.cells, u.oneCell' = true := by
  intro u hu
  obtain ⟨f, _, hf⟩ := List.mem_flatMap.1 hu
  simp [FB.cells] at hf
  rcases hf with rfl | rfl | rfl | rfl <;> rfl
end Go.Proofs.YtmmdblpoecidaaaGreatDoor
namespace Go.Proofs.YtmmdblpoecidaaaGreatDoor
open Go.RowKit Tryst
set_option maxHeartbeats 400000
set_option maxRecDepth 20000
theorem findB_idx {l : List FB} {n : ByteArray} {k : Nat} (hk : k < l.length) (h : idxB (fun f => f.name.toList == n.toList) l = k) : l[k].name.data.toList = n.data.toList ∧ ∀ (j : Nat) (h : j < l.length), j < k → l[j].name.data.toList ≠ n.data.toList := by
  unfold idxB at h
  cases e : l.findIdx? (fun f => f.name.toList == n.toList) with
  | none => rw [e] at h; simp at h
  | some i =>
    rw [e] at h
    have h' : i = k := by
      have h3 : (i : Int) = k := by simpa using h
      omega
    subst h'
    obtain ⟨_, h1, h2⟩ := List.findIdx?_eq_some_iff_getElem.1 e
    refine ⟨?_, fun j hj hlt hne => h2 j hlt (strEq hne)⟩
    have := beq_iff_eq.1 h1
    rwa [str_toList, str_toList] at this
theorem setAt {w : World} {b o : Nat} {l : List FB} {k : Nat} (hk : k < l.length) (h : Flds w (some ⟨b, o, none⟩) l) (f : FB) :
    Flds ((((w.setCell ⟨b, o + k * 4, none⟩ (.string f.name)).setCell ⟨b, o + k * 4 + 1, none⟩ (.bool f.num)).setCell ⟨b, o + k * 4 + 2, none⟩ (.int .i64 f.n)).setCell ⟨b, o + k * 4 + 3, none⟩ (.string f.s)) (some ⟨b, o, none⟩) (l.set k f) := by
  intro i hi
  have hi' : i < l.length := by simpa using hi
  obtain ⟨hb, f0, f1, f2, f3⟩ := h.at hi'
  obtain ⟨_, g0, g1, g2, g3⟩ := h.at hk
  refine ⟨b, o, rfl, by simpa using hb, ?_⟩
  by_cases e : k = i
  · subst e
    rw [List.getElem_set_self]
    constructor <;> simp [cell_setCell, g0, g1, g2, g3]
  · rw [List.getElem_set_ne e]
    have e0 : ∀ x y, x < 4 → y < 4 → ¬ o + k * 4 + x = o + i * 4 + y := fun x y hx hy => by omega
    have q00 := e0 0 0 (by omega) (by omega); have q01 := e0 0 1 (by omega) (by omega); have q02 := e0 0 2 (by omega) (by omega); have q03 := e0 0 3 (by omega) (by omega)
    have q10 := e0 1 0 (by omega) (by omega); have q11 := e0 1 1 (by omega) (by omega); have q12 := e0 1 2 (by omega) (by omega); have q13 := e0 1 3 (by omega) (by omega)
    have q20 := e0 2 0 (by omega) (by omega); have q21 := e0 2 1 (by omega) (by omega); have q22 := e0 2 2 (by omega) (by omega); have q23 := e0 2 3 (by omega) (by omega)
    have q30 := e0 3 0 (by omega) (by omega); have q31 := e0 3 1 (by omega) (by omega); have q32 := e0 3 2 (by omega) (by omega); have q33 := e0 3 3 (by omega) (by omega)
    simp only [Nat.add_zero] at q00 q01 q02 q03 q10 q20 q30
    constructor
    · rw [cell_setCell, if_neg (fun h => q30 h.2), cell_setCell, if_neg (fun h => q20 h.2), cell_setCell, if_neg (fun h => q10 h.2), cell_setCell, if_neg (fun h => q00 h.2)]; exact f0
    · rw [cell_setCell, if_neg (fun h => q31 h.2), cell_setCell, if_neg (fun h => q21 h.2), cell_setCell, if_neg (fun h => q11 h.2), cell_setCell, if_neg (fun h => q01 h.2)]; exact f1
    · rw [cell_setCell, if_neg (fun h => q32 h.2), cell_setCell, if_neg (fun h => q22 h.2), cell_setCell, if_neg (fun h => q12 h.2), cell_setCell, if_neg (fun h => q02 h.2)]; exact f2
    · rw [cell_setCell, if_neg (fun h => q33 h.2), cell_setCell, if_neg (fun h => q23 h.2), cell_setCell, if_neg (fun h => q13 h.2), cell_setCell, if_neg (fun h => q03 h.2)]; exact f3
end Go.Proofs.YtmmdblpoecidaaaGreatDoor
namespace Go.Proofs.YtmmdblpoecidaaaGreatDoor
open Go.RowKit Tryst
set_option maxHeartbeats 400000
set_option maxRecDepth 20000
theorem aboveB_idx {l : List FB} {n : ByteArray} {k : Nat} (hk : k < l.length) (h : idxB (fun f => Op.bytesLess n.toList f.name.toList) l = k) : Op.bytesLess n.data.toList l[k].name.data.toList = true ∧ ∀ (j : Nat) (h : j < l.length), j < k → Op.bytesLess n.data.toList l[j].name.data.toList = false := by
  unfold idxB at h
  cases e : l.findIdx? (fun f => Op.bytesLess n.toList f.name.toList) with
  | none => rw [e] at h; simp at h
  | some i =>
    rw [e] at h
    have h' : i = k := by
      have h3 : (i : Int) = k := by simpa using h
      omega
    subst h'
    obtain ⟨_, h1, h2⟩ := List.findIdx?_eq_some_iff_getElem.1 e
    refine ⟨by rwa [str_toList, str_toList] at h1, fun j hj hlt => ?_⟩
    have := h2 j hlt
    rw [str_toList, str_toList] at this
    simpa using this
theorem above_cases (l : List FB) (f : FB) : (∃ (k : Nat), k < l.length ∧ idxB (fun x => Op.bytesLess f.name.toList x.name.toList) l = k ∧ insB l f = l.take k ++ [f] ++ l.drop k) ∨ (idxB (fun x => Op.bytesLess f.name.toList x.name.toList) l = -1 ∧ insB l f = l ++ [f]) := by
  cases e : l.findIdx? (fun x => Op.bytesLess f.name.toList x.name.toList) with
  | none =>
    refine .inr ⟨by unfold idxB; rw [e], ?_⟩
    have h := List.findIdx?_eq_none_iff.1 e
    have := insB_at l f l.length (Nat.le_refl _) (fun h => by omega) (fun j hj _ => by
      have := h l[j] (List.getElem_mem hj)
      rwa [str_toList, str_toList] at this)
    rw [this]; simp
  | some k =>
    obtain ⟨hk, _, _⟩ := List.findIdx?_eq_some_iff_getElem.1 e
    have hi : idxB (fun x => Op.bytesLess f.name.toList x.name.toList) l = k := by unfold idxB; rw [e]
    obtain ⟨h1, h2⟩ := aboveB_idx hk hi
    exact .inl ⟨k, hk, hi, insB_at l f k (by omega) (fun _ => h1) h2⟩
theorem infoF : (Tryz.prog.info? 52).map (fun i => (i.zero, i.size, i.bytes)) = some (some (.agg #[.string ⟨#[]⟩, .bool false, .int .i64 0, .string ⟨#[]⟩]), 4, 48) := by kernel_rfl
theorem makeF (n : Nat) (hn : n ≤ 1000000001) : ∃ M : Array Value, M.size = n * 4 ∧ ∀ w : World, (Instr.makeSlice 53 (.int .i64 0) (.int .i64 (n : Int))).run Tryz.prog w = .ok (.slice (some ⟨w.heap.size, 0, none⟩) 0 n) (w.alloc (.cells M 52)) := by
  obtain ⟨i, hi, hz, h2, h3⟩ := info_parts infoF
  refine ⟨madeCells (Value.agg #[.string ⟨#[]⟩, .bool false, .int .i64 0, .string ⟨#[]⟩]).cells (n * 4), size_madeCells _ _, fun w => ?_⟩
  have hr := run_make (P := Tryz.prog) w 53 52 i _ Tryz.underlying53 hi hz .i64 .i64 0 n (Int.le_refl _) (by omega) (by rw [h3]; omega) (by omega)
  rw [h2] at hr
  simpa using hr
end Go.Proofs.YtmmdblpoecidaaaGreatDoor
namespace Go.Proofs.YtmmdblpoecidaaaGreatDoor
open Go.RowKit Tryst
set_option maxHeartbeats 400000
set_option maxRecDepth 20000
end Go.Proofs.YtmmdblpoecidaaaGreatDoor
namespace Go.Proofs.YtmmdblpoecidaaaGreatDoor
open Go.RowKit Tryst
set_option maxHeartbeats 400000
set_option maxRecDepth 20000
end Go.Proofs.YtmmdblpoecidaaaGreatDoor
namespace Go.Proofs.YtmmdblpoecidaaaGreatDoor
open Go.RowKit Tryst
set_option maxHeartbeats 400000
set_option maxRecDepth 20000
theorem idx_find {l : List FB} {n : ByteArray} (h : idxB (fun f => f.name.toList == n.toList) l = -1) : findB l n = none := by
  rcases idx_cases l n with ⟨k, _, h1, _⟩ | ⟨_, h2⟩
  · rw [h1] at h; omega
  · exact h2
end Go.Proofs.YtmmdblpoecidaaaGreatDoor
