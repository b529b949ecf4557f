/- The walk of Few of an event. -/
import Derived.Test.YtmmdblpoecidaaaGreatDoorProg
import Derived.WalkKit
import Derived.WalkSpells
import Derived.WalkLawsBesides
import Derived.Lib.Hide
import Derived.Deep.RegionWith
import Derived.Deep.Cut
import Derived.Test.YtmmdblpoecidaaaGreatDoorFldG
import Derived.Test.YtmmdblpoecidaaaGreatDoorVal4
set_option linter.unusedVariables false
set_option linter.unusedSimpArgs false
namespace Go.Proofs.YtmmdblpoecidaaaGreatDoor
open Go.RowKit Tryst
set_option maxHeartbeats 400000
set_option maxRecDepth 20000
theorem allocEv (ρ : Operand → Value) (o : Oper) (w : World) (ho : o.op = .alloc 55) : (execOp ρ o).run Tryz.prog w = .ok (.value (.pointer (some ⟨w.heap.size, 0, none⟩))) (w.alloc (.cells #[.string ⟨#[]⟩, .string ⟨#[]⟩, .int .u64 0, .slice none 0 0] 55)) := by
  unfold execOp
  rw [ho]
  kernel_rfl
theorem fldT : SliceOf Tryz.prog 53 52 4 48 := .mk' Tryz.underlying53 (z := .agg #[.string ⟨#[]⟩, .bool false, .int .i64 0, .string ⟨#[]⟩]) (by kernel_rfl) rfl (by decide) (by decide)
def few60 (s : ByteArray) : ByteArray := if 60 < s.size then s.extract 0 60 else s
theorem few60_le (s : ByteArray) : (few60 s).size ≤ 60 := by
  unfold few60; split
  · simp; omega
  · omega
theorem few60_c (s : ByteArray) (hs : s.size ≤ 9223372036854775807) (w : World) :
    Calls Tryz.prog 23 #[.string s] w fun e w' => e = .returned (.string (few60 s)) ∧ w = w' := by
  by_cases h : 60 < s.size
  all_goals
    go_enter Tryz.func23, Tryz.ntmps23
    go_wp2
    first | rw [show few60 s = s.extract 0 60 by unfold few60; rw [if_pos (by omega)]] | rw [show few60 s = s by unfold few60; rw [if_neg (by omega)]]
    go_ret
    exact ⟨rfl, rfl⟩
theorem fewV_c (x : Bool) (n : Int) (s : ByteArray) (hs : s.size ≤ 9223372036854775807) (w : World) :
    Calls Tryz.prog 24 #[.agg #[.bool x, .int .i64 n, .string s]] w fun e w' => e = .returned (.agg #[.bool x, .int .i64 n, .string (few s)]) ∧ Below w.heap.size w w' := by
  by_cases h : 70 < s.size
  all_goals
    go_enter Tryz.func24, Tryz.ntmps24
    go_wp2
    first | rw [show few s = s.extract 0 70 by unfold few; rw [if_pos (by omega)]] | rw [show few s = s by unfold few; rw [if_neg (by omega)]]
    exact bodyPost_ret (v := .agg #[.bool x, .int .i64 n, .string _]) (by simp [results, Tryz.results24, go_sem, *]) rfl ⟨rfl, by repeat (first | exact Below.refl _ _ | refine bdrew ?_ | refine balloc _ ?_ | refine bset _ (by simp) ?_ | refine bstep (by assumption) ?_)⟩
def fewF (f : FB) : FB := ⟨few60 f.name, f.num, f.n, few f.s⟩
def fewL (l : List FB) : List FB := (l.take 10).map fewF
def EvR (w : World) (t p : ByteArray) (q : Int) (l : List FB) (e : Ending) (w' : World) : Prop := ∃ a c, e = .returned (.agg #[.string t, .string p, .int .u64 q, .slice a l.length c]) ∧ Flds w' a l ∧ Sl a c l.length ∧ Below w.heap.size w w'
def FewRel (w : World) (g B : Nat) (t p : ByteArray) (q : Int) (a : Option Addr) (c : Nat) (l : List FB) (i : Value) (wr : World) : Prop :=
  ∃ (k : Nat) (v : Value), k ≤ l.length ∧ k ≤ 10 ∧ i = .int .i64 k ∧ Hid (EAt wr g (few60 t) (few60 p) q v) ∧ Hid (FOwn 52 wr B v ((l.take k).map fewF)) ∧ Hid (EAt wr w.heap.size t p q (.slice a l.length c)) ∧
    Hid (EAt wr (w.heap.size + 1) ⟨#[]⟩ ⟨#[]⟩ 0 (.slice none 0 0)) ∧ B ≤ wr.heap.size ∧ Hid (Below w.heap.size w wr)
end Go.Proofs.YtmmdblpoecidaaaGreatDoor
