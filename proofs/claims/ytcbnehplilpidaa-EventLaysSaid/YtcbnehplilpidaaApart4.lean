/- The walk of EventApart. -/
import Derived.Test.YtcbnehplilpidaaProg
import Derived.WalkKit
import Derived.WalkSpells
import Derived.WalkLawsBesides
import Derived.Lib.Hide
import Derived.Deep.RegionWith
import Derived.Deep.Cut
import Derived.Test.YtcbnehplilpidaaAw4s
set_option linter.unusedVariables false
set_option linter.unusedSimpArgs false
namespace Go.Proofs.Ytcbnehplilpidaa
open Go.RowKit Tryst
set_option maxHeartbeats 400000
set_option maxRecDepth 20000
/-- a value that is an event with these fields -/
def EvV (t p : ByteArray) (q : Int) (l : List FB) (v : Value) (w : World) : Prop := ∃ a c, v = .agg #[.string t, .string p, .int .u64 q, .slice a l.length c] ∧ Flds w a l
theorem EvV.at {t p : ByteArray} {q : Int} {l : List FB} {v : Value} {w' : World} (h : ∃ w0, Tryst2.Grow w0 w' ∧ EvV t p q l v w0) : EvV t p q l v w' := by
  obtain ⟨w0, hg, a, c, h1, h2⟩ := h
  exact ⟨a, c, h1, h2.grow hg⟩
theorem EvV.of {w w' : World} {t p : ByteArray} {q : Int} {l : List FB} {a : Option Addr} {c : Nat} (h : Flds w' a l) (hb : Below w.heap.size w w') : Tryst2.Grow w w' ∧ ∃ w0, Tryst2.Grow w0 w' ∧ EvV t p q l (.agg #[.string t, .string p, .int .u64 q, .slice a l.length c]) w0 :=
  ⟨hb, w', Tryst2.Grow.refl _, a, c, rfl, h⟩
/-- both boxes written -/
theorem two_boxes {w : World} {B0 B1 : Nat} {t p t' p' : ByteArray} {q q' : Int} {a0 a1 : Option Addr} {m0 m1 c0 c1 : Nat} {T : TypeId} {x y : Option Addr} {L M : List FB}
    (h0 : w.heap[B0]? = some (.cells #[.string t, .string p, .int .u64 q, .slice a0 m0 c0] T (0, 0))) (h1 : w.heap[B1]? = some (.cells #[.string t', .string p', .int .u64 q', .slice a1 m1 c1] T (0, 0))) (hne : B0 ≠ B1)
    (F0 : Flds w x L) (F1 : Flds w y M) (u v u' v' : ByteArray) (r r' : Int) (g g' : Value) :
    EAt ((((((((w.setCell ⟨B0, 0, none⟩ (.string u)).setCell ⟨B0, 1, none⟩ (.string v)).setCell ⟨B0, 2, none⟩ (.int .u64 r)).setCell ⟨B0, 3, none⟩ g).setCell ⟨B1, 0, none⟩ (.string u')).setCell ⟨B1, 1, none⟩ (.string v')).setCell ⟨B1, 2, none⟩ (.int .u64 r')).setCell ⟨B1, 3, none⟩ g') B0 u v r g ∧
    EAt ((((((((w.setCell ⟨B0, 0, none⟩ (.string u)).setCell ⟨B0, 1, none⟩ (.string v)).setCell ⟨B0, 2, none⟩ (.int .u64 r)).setCell ⟨B0, 3, none⟩ g).setCell ⟨B1, 0, none⟩ (.string u')).setCell ⟨B1, 1, none⟩ (.string v')).setCell ⟨B1, 2, none⟩ (.int .u64 r')).setCell ⟨B1, 3, none⟩ g') B1 u' v' r' g' ∧
    Flds ((((((((w.setCell ⟨B0, 0, none⟩ (.string u)).setCell ⟨B0, 1, none⟩ (.string v)).setCell ⟨B0, 2, none⟩ (.int .u64 r)).setCell ⟨B0, 3, none⟩ g).setCell ⟨B1, 0, none⟩ (.string u')).setCell ⟨B1, 1, none⟩ (.string v')).setCell ⟨B1, 2, none⟩ (.int .u64 r')).setCell ⟨B1, 3, none⟩ g') x L ∧
    Flds ((((((((w.setCell ⟨B0, 0, none⟩ (.string u)).setCell ⟨B0, 1, none⟩ (.string v)).setCell ⟨B0, 2, none⟩ (.int .u64 r)).setCell ⟨B0, 3, none⟩ g).setCell ⟨B1, 0, none⟩ (.string u')).setCell ⟨B1, 1, none⟩ (.string v')).setCell ⟨B1, 2, none⟩ (.int .u64 r')).setCell ⟨B1, 3, none⟩ g') y M := by
  have e0 : EAt w B0 t p q (.slice a0 m0 c0) := EAt.of h0
  have e1 : EAt w B1 t' p' q' (.slice a1 m1 c1) := EAt.of h1
  have h1' : ((((w.setCell ⟨B0, 0, none⟩ (.string u)).setCell ⟨B0, 1, none⟩ (.string v)).setCell ⟨B0, 2, none⟩ (.int .u64 r)).setCell ⟨B0, 3, none⟩ g).heap[B1]? = some (.cells #[.string t', .string p', .int .u64 q', .slice a1 m1 c1] T (0, 0)) := by
    rw [Below.heap_setCell _ _ _ _ (fun e => hne e.symm), Below.heap_setCell _ _ _ _ (fun e => hne e.symm), Below.heap_setCell _ _ _ _ (fun e => hne e.symm), Below.heap_setCell _ _ _ _ (fun e => hne e.symm)]
    exact h1
  refine ⟨e0.setAll.otherAll (fun e => hne e.symm), (e1.otherAll hne).setAll, ?_, ?_⟩
  · exact flds_box h1' (flds_box h0 F0 _ _ _ _) _ _ _ _
  · exact flds_box h1' (flds_box h0 F1 _ _ _ _) _ _ _ _
theorem evE_inj {t p t' p' : ByteArray} {q q' : Int} {l l' : List FB} (h0 : 0 ≤ q) (h0' : 0 ≤ q') (h : evE t p q l = evE t' p' q' l') : t = t' ∧ p = p' ∧ q = q' ∧ l = l' := by
  unfold evE at h
  rw [Ev.mk.injEq] at h
  obtain ⟨h1, h2, h3, h4⟩ := h
  exact ⟨str_ext h1, str_ext h2, by omega, FB.map_inj h4⟩
end Go.Proofs.Ytcbnehplilpidaa
