/- Holds and May of leaves, as they stand. -/
import Derived.Test.YtmmdblpoecidaaaDoorProg
import Derived.WalkKit
import Derived.WalkSpells
import Derived.WalkLawsBesides
import Derived.Lib.Hide
import Derived.Deep.RegionWith
import Derived.Deep.Cut
import Derived.IntWalk
import Derived.Test.YtmmdblpoecidaaaDoorHoldL5
import Derived.Test.YtmmdblpoecidaaaDoorFormP
set_option linter.unusedVariables false
set_option linter.unusedSimpArgs false
namespace Go.Proofs.YtmmdblpoecidaaaDoor
open Go.RowKit Tryst
set_option maxHeartbeats 2000000
set_option maxRecDepth 20000
theorem arr_str (s : ByteArray) : (⟨s.data.toList.toArray⟩ : ByteArray) = s := by simp
theorem may_leaf (op s : ByteArray) (x : Bool) (n : Int) (vs : ByteArray) (a : Option Addr) (c : Nat) : mayP (PB.mk op s x n vs a c []).pr = aloneB op s x n vs 0 := by
  rw [mayP_eq, PB.pr, PB.prs, formP, formL, nodesP, nodesL]
  simp
theorem may_lt (s : ByteArray) (x : Bool) (n : Int) (vs : ByteArray) (a : Option Addr) (c : Nat) : mayP (PB.mk ⟨#[108, 116]⟩ s x n vs a c []).pr = (fieldB s.data.toList && V.mayB ⟨x, n, vs.data.toList⟩) := by
  rw [may_leaf, show (⟨#[108, 116]⟩ : ByteArray) = Opk.lt.text from rfl, aloneB_at]
  simp [aloneK]
theorem may_eq (s : ByteArray) (x : Bool) (n : Int) (vs : ByteArray) (a : Option Addr) (c : Nat) : mayP (PB.mk ⟨#[101, 113]⟩ s x n vs a c []).pr = (fieldB s.data.toList && V.mayB ⟨x, n, vs.data.toList⟩) := by
  rw [may_leaf, show (⟨#[101, 113]⟩ : ByteArray) = Opk.eq.text from rfl, aloneB_at]
  simp [aloneK]
theorem may_has (s : ByteArray) (a : Option Addr) (c : Nat) : mayP (PB.mk ⟨#[104, 97, 115]⟩ s false 0 ⟨#[]⟩ a c []).pr = fieldB s.data.toList := by
  rw [may_leaf, show (⟨#[104, 97, 115]⟩ : ByteArray) = Opk.has.text from rfl, aloneB_at]
  simp [aloneK, noV]
  exact fun _ => rfl
theorem lt_raw (s : ByteArray) (x : Bool) (n : Int) (vs : ByteArray) (hs : s.size ≤ 1000000000) (hv : vs.size ≤ 1000000000) (t p : ByteArray) (q : Int) (ea : Option Addr) (l : List FB) (ec : Nat) (hl : l.length ≤ 1000000000) (w : World) (hM : MaxW w) (hF : Flds w ea l) :
    Calls Tryd.prog 12 #[.agg #[.string ⟨#[108, 116]⟩, .string s, .bool x, .int .i64 n, .string vs, .slice none 0 0], .agg #[.string t, .string p, .int .u64 q, .slice ea l.length ec]] w fun e w' => e = .returned (.bool ((fieldB s.data.toList && V.mayB ⟨x, n, vs.data.toList⟩) && ltB l s x n vs)) ∧ Below w.heap.size w w' := by
  have h := holds_lt_c s ⟨x, n, vs.data.toList⟩ hs (by simpa using hv) t p q ea l ec hl w hM hF
  unfold leafB at h
  simp only [arr_str] at h
  rw [may_lt] at h
  exact h
theorem eq_raw (s : ByteArray) (x : Bool) (n : Int) (vs : ByteArray) (hs : s.size ≤ 1000000000) (hv : vs.size ≤ 1000000000) (t p : ByteArray) (q : Int) (ea : Option Addr) (l : List FB) (ec : Nat) (hl : l.length ≤ 1000000000) (w : World) (hM : MaxW w) (hF : Flds w ea l) :
    Calls Tryd.prog 12 #[.agg #[.string ⟨#[101, 113]⟩, .string s, .bool x, .int .i64 n, .string vs, .slice none 0 0], .agg #[.string t, .string p, .int .u64 q, .slice ea l.length ec]] w fun e w' => e = .returned (.bool ((fieldB s.data.toList && V.mayB ⟨x, n, vs.data.toList⟩) && eqB l s x n vs)) ∧ Below w.heap.size w w' := by
  have h := holds_eq_c s ⟨x, n, vs.data.toList⟩ hs (by simpa using hv) t p q ea l ec hl w hM hF
  unfold leafB at h
  simp only [arr_str] at h
  rw [may_eq] at h
  exact h
theorem has_raw (s : ByteArray) (hs : s.size ≤ 1000000000) (t p : ByteArray) (q : Int) (ea : Option Addr) (l : List FB) (ec : Nat) (hl : l.length ≤ 1000000000) (w : World) (hM : MaxW w) (hF : Flds w ea l) :
    Calls Tryd.prog 12 #[.agg #[.string ⟨#[104, 97, 115]⟩, .string s, .bool false, .int .i64 0, .string ⟨#[]⟩, .slice none 0 0], .agg #[.string t, .string p, .int .u64 q, .slice ea l.length ec]] w fun e w' => e = .returned (.bool (fieldB s.data.toList && (findB l s).isSome)) ∧ Below w.heap.size w w' := by
  have h := holds_has_c s ⟨false, 0, []⟩ hs (by simp) t p q ea l ec hl w hM hF
  unfold leafB at h
  rw [may_has] at h
  exact h
theorem may_raw (op s : ByteArray) (x : Bool) (n : Int) (vs : ByteArray) (hs : s.size ≤ 1000000000) (hv : vs.size ≤ 1000000000) (w : World) (hM : MaxW w) :
    Calls Tryd.prog 11 #[.agg #[.string op, .string s, .bool x, .int .i64 n, .string vs, .slice none 0 0]] w fun e w' => e = .returned (.bool (mayP (PB.mk op s x n vs none 0 []).pr)) ∧ Below w.heap.size w w' := by
  have h := may5_c (leafB op s ⟨x, n, vs.data.toList⟩) w hM (leaf_mem op s ⟨x, n, vs.data.toList⟩ hs (by simpa using hv) w)
  unfold leafB at h
  simp only [arr_str] at h
  exact h
end Go.Proofs.YtmmdblpoecidaaaDoor
