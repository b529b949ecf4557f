/- the law OffsPuts. -/
import Derived.Test.YtmlbdblnmbmnpaaGreatDoorProg
import Derived.WalkKit
import Derived.WalkSpells
import Derived.WalkLawsBesides
import Derived.Lib.Hide
import Derived.Deep.RegionWith
import Derived.Deep.Cut
import Derived.IntWalk
import Derived.Test.YtmlbdblnmbmnpaaGreatDoorROffU
import Derived.Test.YtmlbdblnmbmnpaaGreatDoorAw14
import Derived.Test.YtmlbdblnmbmnpaaGreatDoorOpen14
set_option linter.unusedVariables false
set_option linter.unusedSimpArgs false
namespace Tryst
open Go Go.Lib
theorem withO_in {l : List OB} {x : OB} {N : Nat} (hl : ∀ z ∈ l, z.topic.size ≤ N) (hx : x.topic.size ≤ N) : (∀ z ∈ withO l x, z.topic.size ≤ N) ∧ (withO l x).length ≤ 2 * l.length + 1 := by
 unfold withO
 refine ⟨fun z hz => ?_, ?_⟩
 ·
  rcases List.mem_append.1 hz with h | h
  ·
   exact hl z (List.mem_filter.1 h).1
  ·
   rcases List.mem_cons.1 h with rfl | h
   ·
    exact hx
   ·
    exact hl z (List.mem_filter.1 h).1
 ·
  have h1 := List.length_filter_le (fun y : OB => lessB y.topic x.topic) l
  have h2 := List.length_filter_le (fun y : OB => lessB x.topic y.topic) l
  rw [List.length_append, List.length_cons]
  omega
theorem putO_in {l : List OB} {x : OB} {N : Nat} (hl : ∀ z ∈ l, z.topic.size ≤ N) (hx : x.topic.size ≤ N) : (∀ z ∈ (putO l x).1.getD [], z.topic.size ≤ N) ∧ ((putO l x).1.getD []).length ≤ 2 * l.length + 1 := by
 rcases putO_cases l x with h | h | h
 ·
  rw [h]; exact ⟨fun z hz => (by cases hz), (by simp)⟩
 ·
  rw [h]; exact ⟨fun z hz => (by cases hz), (by simp)⟩
 ·
  rw [h]; exact withO_in hl hx
end Tryst
namespace Go.Proofs.YtmlbdblnmbmnpaaGreatDoor
open Go.RowKit Tryst
set_option maxHeartbeats 4000000
set_option maxRecDepth 20000
/-- offsets in memory -/
structure OL (w : World) (a : Option Addr) (c : Nat) (l : List OB) : Prop where
 r : OfR w a l
 s : Sl a c l.length
 z : ∀ x ∈ l, x.topic.size ≤ 100000
 n : l.length ≤ 10000
theorem OL.grow {w w' : World} {a : Option Addr} {c : Nat} {l : List OB} (h : OL w a c l) (hb : Below w.heap.size w w') : OL w' a c l := ⟨⟨Row.grow h.r.r hb⟩, h.s, h.z, h.n⟩
theorem OL.of {w : World} {base : Nat} {a : Option Addr} {c : Nat} {l : List OB} (h : OOwn w base (.slice a l.length c) l) (hz : ∀ x ∈ l, x.topic.size ≤ 100000) (hn : l.length ≤ 10000) : OL w a c l := by
 obtain ⟨a', c', hv, h1, h2, _⟩ := ROwn.row h (OB.cells_len l) (by decide)
 rw [List.length_map] at hv h2
 simp only [Value.slice.injEq, true_and] at hv
 obtain ⟨rfl, rfl⟩ := hv
 exact ⟨⟨h1⟩, h2, hz, hn⟩
def PutL (l : List OB) (x : OB) (N : Nat) (w : World) (e : Ending) (w' : World) : Prop := ∃ (a : Option Addr) (c : Nat) (lo : List OB) (ee : Int) (o : Option (List OB)), e = .returned (.tuple #[.slice a lo.length c, .int .i64 ee]) ∧ putO l x = (o, ee) ∧ lo = o.getD [] ∧ OL w' a c lo ∧ lo.length ≤ 2 * N + 1 ∧ Below w.heap.size w w'
theorem PutL.of {l : List OB} {x : OB} {N : Nat} {w w' : World} {e : Ending} (hz : ∀ z ∈ l, z.topic.size ≤ 100000) (hx : x.topic.size ≤ 100000) (hn : l.length ≤ N) (hN : N ≤ 1000) (h : PutR w (putO l x) e w') : PutL l x N w e w' := by
 obtain ⟨a, c, he, ho, hb⟩ := h
 obtain ⟨h1, h2⟩ := putO_in (x := x) hz hx
 exact ⟨a, c, _, _, _, he, rfl, rfl, OL.of ho h1 (by omega), by omega, hb⟩
theorem put_ol {a : Option Addr} {c : Nat} {l : List OB} {w : World} (h : OL w a c l) {N : Nat} (hN : N ≤ 1000) (hn : l.length ≤ N) (x : OB) (hx : x.topic.size ≤ 100000) (hM : MaxW w) :
  Calls Tryz.prog 13 #[.slice a l.length c, .string x.topic, .int .i64 x.next] w fun e w' => PutL l x N w e w' :=
 (oput_c a c l (by omega) h.s (fun z hz => Nat.le_trans (h.z z hz) (by decide)) x (Nat.le_trans hx (by decide)) w hM h.r.r).mono fun e w' hp => PutL.of h.z hx hn hN hp
theorem rput_ol {a : Option Addr} {c : Nat} {l : List OB} {w : World} (h : OL w a c l) {N : Nat} (hN : N ≤ 1000) (hn : l.length ≤ N) (x : OB) (hx : x.topic.size ≤ 100000) :
  Calls Tryz.prog 14 #[.slice a l.length c, .string x.topic, .int .i64 x.next] w fun e w' => PutL l x N w e w' :=
 (roput_c a c l (by omega) (fun z hz => Nat.le_trans (h.z z hz) (by decide)) x (Nat.le_trans hx (by decide)) w h.r.r).mono fun e w' hp => PutL.of h.z hx hn hN hp
theorem few_ol {a : Option Addr} {c : Nat} {l : List OB} {w : World} (hl : l.length ≤ 9223372036854775807) (hs : ∀ x ∈ l, x.topic.size ≤ 9223372036854775807) (hO : Offs w a l) :
  Calls Tryz.prog 10 #[.slice a l.length c] w fun e w' => ∃ a' c', e = .returned (.slice a' (fewOs l).length c') ∧ OL w' a' c' (fewOs l) ∧ (∀ b o, a' = some ⟨b, o, none⟩ → w.heap.size ≤ b) ∧ Below w.heap.size w w' :=
 (offsF_c a c l hl hs w hO).mono fun e w' h => by
  obtain ⟨a', c', he, ho, hb⟩ := h
  exact ⟨a', c', he, OL.of ho (fun x hx => Nat.le_trans (fewOs_size l x hx) (by decide)) (Nat.le_trans (fewOs_len l) (by decide)), fun b o e => by subst e; exact (World.ownsRow.lt ho b rfl).1, hb⟩
/-- two offsets' boxes -/
structure X2 (w v : World) (g0 g1 : Nat) (t : ByteArray) (n : Int) (t' : ByteArray) (n' : Int) : Prop where
 a : OX v g0 t n
 b : OX v g1 t' n'
 l : Below w.heap.size w v
theorem X2.grow {w v v' : World} {g0 g1 : Nat} {t : ByteArray} {n : Int} {t' : ByteArray} {n' : Int} (h : X2 w v g0 g1 t n t' n') (hb : Below v.heap.size v v') : X2 w v' g0 g1 t n t' n' := ⟨h.a.grow hb, h.b.grow hb, bstep hb h.l⟩
theorem X2.new (w : World) (t : ByteArray) (n : Int) (t' : ByteArray) (n' : Int) : X2 w ((w.alloc (.cells #[.string t, .int .i64 n] 31)).alloc (.cells #[.string t', .int .i64 n'] 31)) w.heap.size (w.heap.size + 1) t n t' n' := by
 have e1 := OX.new (w.alloc (.cells #[.string t, .int .i64 n] 31)) t' n'
 rw [show (w.alloc (.cells #[.string t, .int .i64 n] 31)).heap.size = w.heap.size + 1 by simp] at e1
 exact ⟨(OX.new _ _ _).grow (balloc _ (.refl _ _)), e1, balloc _ (balloc _ (.refl _ _))⟩
theorem OX.away {w : World} {g : Nat} {t : ByteArray} {n : Int} (h : OX w g t n) {c o : Nat} (hc : c ≠ g) (v : Value) : OX (w.setCell ⟨c, o, none⟩ v) g t n := (Below.heap_setCell _ _ _ _ (fun e => hc e.symm)).trans h
theorem OX.set0 {w : World} {g : Nat} {t : ByteArray} {n : Int} (h : OX w g t n) (t' : ByteArray) : OX (w.setCell ⟨g, 0, none⟩ (.string t')) g t' n := by
 unfold OX at h ⊢
 simp [World.setCell, Array.getElem?_modify, h]
theorem OX.fz {w : World} {g : Nat} {t : ByteArray} {n : Int} (h : OX w g t n) (j : Nat) : w.frozen? ⟨g, j, none⟩ = false := by
 unfold OX at h
 simp [World.frozen?, h]
theorem OL.away {w : World} {a : Option Addr} {c : Nat} {l : List OB} (h : OL w a c l) {g j : Nat} (hg : ∀ b o, a = some ⟨b, o, none⟩ → g ≠ b) (u : Value) : OL (w.setCell ⟨g, j, none⟩ u) a c l := ⟨⟨Row.away h.r.r hg u⟩, h.s, h.z, h.n⟩
end Go.Proofs.YtmlbdblnmbmnpaaGreatDoor
