/- The walk of slices.Insert at the end. -/
import Derived.Test.YtcbnehplilpidaaProg
import Derived.WalkKit
import Derived.WalkSpells
import Derived.WalkLawsBesides
import Derived.Lib.Hide
import Derived.Deep.RegionWith
import Derived.Deep.Cut
import Derived.IntWalk
import Derived.Lib.Overlaps
import Derived.Lib.AppendZerosOnto
import Derived.Test.YtcbnehplilpidaaTopG
import Derived.Test.YtcbnehplilpidaaCopyK
set_option linter.unusedVariables false
set_option linter.unusedSimpArgs false
namespace Go.Proofs.Ytcbnehplilpidaa
open Go.RowKit Tryst
set_option maxHeartbeats 400000
set_option maxRecDepth 20000
def InsR (w : World) (base : Nat) (v : Value) (l : List TB) (e : Ending) (w' : World) : Prop := ∃ a c, e = .returned (.slice a l.length c) ∧ TOwn w' base (.slice a l.length c) l ∧ Below base w w' ∧ ∀ k, k < w.heap.size → Away v k → w'.heap[k]? = w.heap[k]?
theorem tins_end (base : Nat) (a : Option Addr) (c : Nat) (l : List TB) (hl : l.length ≤ 1000000) (t : TB) (gv : Nat) (w : World) (hO : TOwn w base (.slice a l.length c) l) (hb : base ≤ w.heap.size) (hT : TAt w gv 0 t) :
    Calls Try.prog 66 #[.slice a l.length c, .int .i64 l.length, .slice (some ⟨gv, 0, none⟩) 1 1] w fun e w' => InsR w base (.slice a l.length c) (l ++ [t]) e w' := by
  obtain ⟨a', c', hv, hrow, hsl, h9⟩ := ROwn.row hO (TB.cells_len l) (by decide)
  rw [List.length_map] at hv hsl
  simp only [Value.slice.injEq, true_and] at hv
  obtain ⟨h1, h2⟩ := hv
  subst h1 h2
  obtain ⟨s1, s2, s3⟩ := hsl
  have HO := Lib.hid hO
  obtain ⟨t0, t1, t2⟩ := hT
  simp only [Nat.zero_add] at t1 t2
  have HT : Hid (∀ j, j < 3 → w.cell? ⟨gv, j, none⟩ = t.cells[j]?) := Lib.hid (fun j hj => by
    match j, hj with
    | 0, _ => exact t0
    | 1, _ => exact t1
    | 2, _ => exact t2)
  have HLN : Hid ((l.map TB.cells).length = l.length) := Lib.hid (List.length_map ..)
  have H1 : Hid (∀ u ∈ t.cells, u.oneCell' = true) := Lib.hid (fun u hu => TB.cells_one [t] t.cells (by simp) u hu)
  have HS2 := Lib.hid s2
  have HS3 := Lib.hid s3
  clear hO hrow t0 t1 t2 s2 s3
  have H9 := Lib.hid h9
  clear h9
  cases a with
  | none =>
    obtain rfl : c = 0 := HS3.out rfl
    go_enter Try.func66, Try.ntmps66
    go_wp2_with (at_builtin; refine wpList_appR topT rfl _ _ rfl base (.slice none l.length 0) (l.map TB.cells) l.length HLN.out rfl HO.out t.cells rfl H1.out gv rfl HT.out (by omega) hb ?_; intro v' w1 ho hbw hk)
    all_goals
      have ho2 : TOwn w1 base v' (l ++ [t]) := by
        show ROwn _ _ _ _ _ ((l ++ [t]).map TB.cells)
        rw [List.map_append]
        exact ho
      obtain ⟨a', c', hv, _⟩ := ROwn.row ho2 (TB.cells_len _) (by decide)
      rw [List.length_map] at hv
      subst hv
      go_ret
      exact ⟨a', c', rfl, ho2, hbw, hk⟩
  | some A =>
    obtain ⟨b, o, sp⟩ := A
    obtain rfl : sp = none := HS2.out _ rfl
    obtain rfl : o = 0 := (H9.out b o rfl).2.2
    clear H9
    by_cases hc : c = l.length
    · subst hc
      go_enter Try.func66, Try.ntmps66
      go_wp2_with (at_builtin; refine wpList_appR topT rfl _ _ rfl base (.slice (some ⟨b, 0, none⟩) l.length l.length) (l.map TB.cells) l.length HLN.out rfl HO.out t.cells rfl H1.out gv rfl HT.out (by omega) hb ?_; intro v' w1 ho hbw hk)
      all_goals
        have ho2 : TOwn w1 base v' (l ++ [t]) := by
          show ROwn _ _ _ _ _ ((l ++ [t]).map TB.cells)
          rw [List.map_append]
          exact ho
        obtain ⟨a', c', hv, _⟩ := ROwn.row ho2 (TB.cells_len _) (by decide)
        rw [List.length_map] at hv
        subst hv
        go_ret
        exact ⟨a', c', rfl, ho2, hbw, hk⟩
    · go_enter Try.func66, Try.ntmps66
      go_wp2_with (at_builtin; refine wpList_appR topT rfl _ _ rfl base (.slice (some ⟨b, 0, none⟩) l.length c) (l.map TB.cells) l.length HLN.out rfl HO.out t.cells rfl H1.out gv rfl HT.out (by omega) hb ?_; intro v' w1 ho hbw hk)
      all_goals
        have ho2 : TOwn w1 base v' (l ++ [t]) := by
          show ROwn _ _ _ _ _ ((l ++ [t]).map TB.cells)
          rw [List.map_append]
          exact ho
        obtain ⟨a', c', hv, _⟩ := ROwn.row ho2 (TB.cells_len _) (by decide)
        rw [List.length_map] at hv
        subst hv
        go_ret
        exact ⟨a', c', rfl, ho2, hbw, hk⟩
end Go.Proofs.Ytcbnehplilpidaa
