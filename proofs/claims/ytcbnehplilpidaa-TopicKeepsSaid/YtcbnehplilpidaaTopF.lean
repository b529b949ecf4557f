/- The walks of slices.Clone of texts and of topics. -/
import Derived.Test.YtcbnehplilpidaaProg
import Derived.WalkKit
import Derived.WalkSpells
import Derived.WalkLawsBesides
import Derived.Lib.Hide
import Derived.Deep.RegionWith
import Derived.Deep.Cut
import Derived.IntWalk
import Derived.Lib.LazyBuf
import Derived.Lib.BufferMore
import Derived.Test.YtcbnehplilpidaaTopC
import Derived.Test.YtcbnehplilpidaaNmB
set_option linter.unusedVariables false
set_option linter.unusedSimpArgs false
namespace Go.Proofs.Ytcbnehplilpidaa
open Go.RowKit Tryst
set_option maxHeartbeats 400000
set_option maxRecDepth 20000
theorem topT : SliceOf Try.prog 50 74 3 48 := .mk' Try.underlying50 (z := .agg #[.string ⟨#[]⟩, .int .i64 0, .slice none 0 0]) (by kernel_rfl) rfl (by decide) (by decide)
def CloneK (e : TypeId) (k : Nat) (w : World) (r : List (List Value)) (n : Nat) (x : Ending) (w' : World) : Prop := ∃ a c, x = .returned (.slice a n c) ∧ ROwn e k w' w.heap.size (.slice a n c) r ∧ Below w.heap.size w w'
theorem cloneS_c (a : Option Addr) (c : Nat) (l : List ByteArray) (hl : l.length ≤ 1000000000) (w : World) (hF : Strs w a l) (hS : Sl a c l.length) :
    Calls Try.prog 84 #[.slice a l.length c] w fun e w' => CloneK 9 1 w (l.map fun s => [Value.string s]) l.length e w' := by
  have hF' := strs_row.1 hF
  have hrl : ∀ x ∈ l.map (fun s => [Value.string s]), x.length = 1 := fun x hx => by
    obtain ⟨s, _, rfl⟩ := List.mem_map.1 hx
    rfl
  have hr1 : ∀ x ∈ l.map (fun s => [Value.string s]), ∀ u ∈ x, u.oneCell' = true := fun x hx u hu => by
    obtain ⟨s, _, rfl⟩ := List.mem_map.1 hx
    rw [List.mem_singleton] at hu
    subst hu; rfl
  have hlr : (l.map (fun s => [Value.string s])).length = l.length := List.length_map ..
  generalize l.map (fun s => [Value.string s]) = r at hF' hrl hr1 hlr ⊢
  generalize l.length = n at hl hS hlr ⊢
  have HF := Lib.hid hF'
  have HRL := Lib.hid hrl
  have HR1 := Lib.hid hr1
  have HLR := Lib.hid hlr
  obtain ⟨s1, s2, s3⟩ := hS
  clear hF hF' hrl hr1 hlr
  have hq := fun (w : World) (a : Option Addr) (n c : Nat) => Lib.run_eql_slice_nil (P := Try.prog) w 72 9 a n c 0 0 Try.underlying72
  cases a with
  | none =>
    obtain rfl : c = 0 := s3 rfl
    obtain rfl : n = 0 := by omega
    obtain rfl : r = [] := List.eq_nil_of_length_eq_zero HLR.out
    clear s2 s3 s1 HLR
    go_enter Try.func84, Try.ntmps84
    go_wp2_with fail
    go_ret
    exact ⟨none, 0, rfl, ROwn.nil _ _ _ _, .refl _ _⟩
  | some A =>
    obtain ⟨b, o, sp⟩ := A
    obtain rfl : sp = none := s2 _ rfl
    clear s2 s3
    go_enter Try.func84, Try.ntmps84
    have HO := Lib.hid (ROwn.empty 9 1 w w.heap.size (Nat.le_refl _))
    have HF2 := Lib.hid (HF.out.grow (balloc (.cells #[] 9) (.refl _ w)))
    go_wp2_with (at_builtin; refine wpList_appRS strT rfl _ _ rfl w.heap.size _ [] 0 rfl rfl HO.out r n HLR.out HRL.out HR1.out b o c rfl HF2.out (by omega) (by simp) ?_; intro v' w1 ho hb)
    go_ret
    obtain ⟨a', c', hv, _⟩ := ho.row (fun x hx => HRL.out x (by simpa using hx)) (by decide)
    rw [List.nil_append] at ho hv
    rw [HLR.out] at hv
    subst hv
    exact ⟨a', c', rfl, ho, (balloc _ (.refl _ _)).trans hb⟩
theorem cloneT_c (a : Option Addr) (c : Nat) (l : List TB) (hl : l.length ≤ 1000000000) (w : World) (hF : Row w a 3 (l.map TB.cells)) (hS : Sl a c l.length) :
    Calls Try.prog 83 #[.slice a l.length c] w fun e w' => CloneK 74 3 w (l.map TB.cells) l.length e w' := by
  have hF' := hF
  have hrl := TB.cells_len l
  have hr1 := TB.cells_one l
  have hlr : (l.map TB.cells).length = l.length := List.length_map ..
  generalize l.map TB.cells = r at hF hF' hrl hr1 hlr ⊢
  generalize l.length = n at hl hS hlr ⊢
  have HF := Lib.hid hF'
  have HRL := Lib.hid hrl
  have HR1 := Lib.hid hr1
  have HLR := Lib.hid hlr
  obtain ⟨s1, s2, s3⟩ := hS
  clear hF hF' hrl hr1 hlr
  have hq := fun (w : World) (a : Option Addr) (n c : Nat) => Lib.run_eql_slice_nil (P := Try.prog) w 50 74 a n c 0 0 Try.underlying50
  cases a with
  | none =>
    obtain rfl : c = 0 := s3 rfl
    obtain rfl : n = 0 := by omega
    obtain rfl : r = [] := List.eq_nil_of_length_eq_zero HLR.out
    clear s2 s3 s1 HLR
    go_enter Try.func83, Try.ntmps83
    go_wp2_with fail
    go_ret
    exact ⟨none, 0, rfl, ROwn.nil _ _ _ _, .refl _ _⟩
  | some A =>
    obtain ⟨b, o, sp⟩ := A
    obtain rfl : sp = none := s2 _ rfl
    clear s2 s3
    go_enter Try.func83, Try.ntmps83
    have HO := Lib.hid (ROwn.empty 74 3 w w.heap.size (Nat.le_refl _))
    have HF2 := Lib.hid (HF.out.grow (balloc (.cells #[] 74) (.refl _ w)))
    go_wp2_with (at_builtin; refine wpList_appRS topT rfl _ _ rfl w.heap.size _ [] 0 rfl rfl HO.out r n HLR.out HRL.out HR1.out b o c rfl HF2.out (by omega) (by simp) ?_; intro v' w1 ho hb)
    go_ret
    obtain ⟨a', c', hv, _⟩ := ho.row (fun x hx => HRL.out x (by simpa using hx)) (by decide)
    rw [List.nil_append] at ho hv
    rw [HLR.out] at hv
    subst hv
    exact ⟨a', c', rfl, ho, (balloc _ (.refl _ _)).trans hb⟩
end Go.Proofs.Ytcbnehplilpidaa
