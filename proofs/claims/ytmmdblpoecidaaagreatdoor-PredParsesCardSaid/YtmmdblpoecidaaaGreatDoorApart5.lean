/- The walk of the law PredApart. -/
import Derived.Test.YtmmdblpoecidaaaGreatDoorProg
import Derived.WalkKit
import Derived.WalkSpells
import Derived.WalkLawsBesides
import Derived.Lib.Hide
import Derived.Deep.RegionWith
import Derived.Deep.Cut
import Derived.IntWalk
import Derived.Test.YtmmdblpoecidaaaGreatDoorFwP5
import Derived.Test.YtmmdblpoecidaaaGreatDoorHold5
import Derived.Test.YtmmdblpoecidaaaGreatDoorRNS5
import Derived.Test.YtmmdblpoecidaaaGreatDoorWrT5
set_option linter.unusedVariables false
set_option linter.unusedSimpArgs false
namespace Tryst
open Go Go.RowKit
mutual
theorem po_fits {w : World} : ∀ x : PB, PO w x → fitsP x.pr
  | .mk op s num n vs a c l, h => by
    obtain ⟨-, hn, -, hl⟩ := PO.parts h
    rw [PB.pr, fitsP]
    exact ⟨hn, po_fitsL l hl⟩
theorem po_fitsL {w : World} : ∀ l : List PB, (∀ x, x ∈ l → PO w x) → fitsL (PB.prs l)
  | [], _ => by rw [PB.prs, fitsL]; trivial
  | x :: r, h => by
    rw [PB.prs, fitsL]
    exact ⟨po_fits x (h x List.mem_cons_self), po_fitsL r (fun y hy => h y (List.mem_cons_of_mem _ hy))⟩
end
end Tryst
namespace Go.Proofs.YtmmdblpoecidaaaGreatDoor
open Go.RowKit Tryst
set_option maxHeartbeats 4000000
set_option maxRecDepth 20000
/-- the stores into two boxes -/
def duo (w : World) (B : Nat) (a0 a1 : ByteArray) (a2 : Bool) (a3 : Int) (a4 : ByteArray) (a5 : Value) (b0 b1 : ByteArray) (b2 : Bool) (b3 : Int) (b4 : ByteArray) (b5 : Value) : World :=
  (((((((((((w.setCell ⟨B, 0, none⟩ (.string a0)).setCell ⟨B, 1, none⟩ (.string a1)).setCell ⟨B, 2, none⟩ (.bool a2)).setCell ⟨B, 3, none⟩ (.int .i64 a3)).setCell ⟨B, 4, none⟩ (.string a4)).setCell ⟨B, 5, none⟩ a5).setCell ⟨B + 1, 0, none⟩ (.string b0)).setCell ⟨B + 1, 1, none⟩ (.string b1)).setCell ⟨B + 1, 2, none⟩ (.bool b2)).setCell ⟨B + 1, 3, none⟩ (.int .i64 b3)).setCell ⟨B + 1, 4, none⟩ (.string b4)).setCell ⟨B + 1, 5, none⟩ b5
section
variable {w : World} {B : Nat} {a0 a1 : ByteArray} {a2 : Bool} {a3 : Int} {a4 : ByteArray} {a5 : Value} {b0 b1 : ByteArray} {b2 : Bool} {b3 : Int} {b4 : ByteArray} {b5 : Value}
theorem duo_away {k : Nat} (h : B + 2 ≤ k) : (duo w B a0 a1 a2 a3 a4 a5 b0 b1 b2 b3 b4 b5).heap[k]? = w.heap[k]? := by
  unfold duo
  repeat rw [Below.heap_setCell _ _ _ _ (show k ≠ _ by simp; omega)]
theorem duo_size : (duo w B a0 a1 a2 a3 a4 a5 b0 b1 b2 b3 b4 b5).heap.size = w.heap.size := by
  unfold duo
  simp
theorem duo_p {c0 c1 : ByteArray} {c2 : Bool} {c3 : Int} {c4 : ByteArray} {c5 : Value} (h : BX w B c0 c1 c2 c3 c4 c5) : BX (duo w B a0 a1 a2 a3 a4 a5 b0 b1 b2 b3 b4 b5) B a0 a1 a2 a3 a4 a5 := by
  have h1 := h.all a0 a1 a2 a3 a4 a5
  unfold duo
  repeat (refine BX.away ?_ (by omega) _)
  exact h1
theorem duo_q {c0 c1 : ByteArray} {c2 : Bool} {c3 : Int} {c4 : ByteArray} {c5 : Value} (h : BX w (B + 1) c0 c1 c2 c3 c4 c5) : BX (duo w B a0 a1 a2 a3 a4 a5 b0 b1 b2 b3 b4 b5) (B + 1) b0 b1 b2 b3 b4 b5 := by
  unfold duo
  refine BX.all (op := c0) (s := c1) (num := c2) (n := c3) (vs := c4) (u := c5) ?_ _ _ _ _ _ _
  repeat (refine BX.away ?_ (by omega) _)
  exact h
theorem duo_o {y : PB} (h : POwn w (fun b => B + 2 ≤ b) y) : PO (duo w B a0 a1 a2 a3 a4 a5 b0 b1 b2 b3 b4 b5) y :=
  h.keep (fun b hb _ => ⟨duo_away hb, trivial⟩) (by rw [duo_size]; exact Nat.le_refl _)
theorem duo_b {v : World} (h : Below B v w) : Below B v (duo w B a0 a1 a2 a3 a4 a5 b0 b1 b2 b3 b4 b5) :=
  Below.setCell (Below.setCell (Below.setCell (Below.setCell (Below.setCell (Below.setCell (Below.setCell (Below.setCell (Below.setCell (Below.setCell (Below.setCell (Below.setCell h (p := ⟨B, 0, none⟩) (Nat.le_refl _) _) (p := ⟨B, 1, none⟩) (Nat.le_refl _) _) (p := ⟨B, 2, none⟩) (Nat.le_refl _) _) (p := ⟨B, 3, none⟩) (Nat.le_refl _) _) (p := ⟨B, 4, none⟩) (Nat.le_refl _) _) (p := ⟨B, 5, none⟩) (Nat.le_refl _) _) (p := ⟨B + 1, 0, none⟩) (Nat.le_succ _) _) (p := ⟨B + 1, 1, none⟩) (Nat.le_succ _) _) (p := ⟨B + 1, 2, none⟩) (Nat.le_succ _) _) (p := ⟨B + 1, 3, none⟩) (Nat.le_succ _) _) (p := ⟨B + 1, 4, none⟩) (Nat.le_succ _) _) (p := ⟨B + 1, 5, none⟩) (Nat.le_succ _) _
end
end Go.Proofs.YtmmdblpoecidaaaGreatDoor
