/- The walk of the reader s value. -/
import Derived.Test.YtcbnehplilpidaaProg
import Derived.WalkKit
import Derived.WalkSpells
import Derived.WalkLawsBesides
import Derived.Lib.Hide
import Derived.Deep.RegionWith
import Derived.Deep.RegionHeld3
import Derived.Deep.Cut
import Derived.Test.YtcbnehplilpidaaRdA
set_option linter.unusedVariables false
set_option linter.unusedSimpArgs false
namespace Go.Proofs.Ytcbnehplilpidaa
open Go.RowKit Tryst
set_option maxHeartbeats 400000
set_option maxRecDepth 20000
theorem _root_.Tryst.RAt.other {w : World} {g c o : Nat} {s : ByteArray} {a e : Nat} {u : Value} (h : RAt w g s a e) (hc : c ≠ g) : RAt (w.setCell ⟨c, o, none⟩ u) g s a e := by
  obtain ⟨h0, h1, h2, h3, h4, h5⟩ := h
  constructor <;> simp [cell_setCell, frozen_setCell, hc, h0, h1, h2, h3, h4, h5]
theorem _root_.Tryst.RAt.put {w : World} {g : Nat} {s : ByteArray} {a e a' e' : Nat} {x : Int} (h : RAt w g s a e) (hx : (a' : Int) = x) : RAt ((w.setCell ⟨g, 1, none⟩ (.int .i64 x)).setCell ⟨g, 2, none⟩ (.int .i64 e')) g s a' e' := by
  subst hx; exact h.set1.set2
theorem _root_.Tryst.RAt.alloc {w : World} {g : Nat} {s : ByteArray} {a e : Nat} (h : RAt w g s a e) (o : Obj) : RAt (w.alloc o) g s a e := h.grow (balloc _ (.refl _ _))
theorem _root_.Tryst.RAt.drew {w : World} {g : Nat} {s : ByteArray} {a e : Nat} (h : RAt w g s a e) : RAt w.drew g s a e := ⟨h.c0, h.c1, h.c2, h.f1, h.f2, h.hz⟩
theorem _root_.Tryst.Only.new {g c : Nat} {u v : World} (h : Only g u v) (hg : g < u.heap.size) (hc : u.heap.size ≤ c) (o : Nat) (x : Value) : Only g u (v.setCell ⟨c, o, none⟩ x) :=
  ⟨h.below.setCell (p := ⟨c, o, none⟩) (show g ≤ c by omega) x, fun k hk hkg => by
    rw [Below.heap_setCell _ _ _ _ (fun e => (by have e' : k = c := e; omega))]; exact h.keep k hk hkg⟩
theorem _root_.Tryst.Only.alloc {g : Nat} {u v : World} (h : Only g u v) (hg : g < u.heap.size) (o : Obj) : Only g u (v.alloc o) :=
  h.trans (Only.ofBelow (Nat.lt_of_lt_of_le hg h.below.size) (balloc o (.refl _ _)))
def VV (v : V) : Value := .agg #[.bool v.num, .int .i64 v.n, .string ⟨v.s.toArray⟩]
def ValR (w : World) (g : Nat) (s : ByteArray) (v : V) (a e : Nat) (x : Ending) (w' : World) : Prop := x = .returned (VV v) ∧ RAt w' g s a e ∧ Only g w w'
/-- a value's three cells, which may be written -/
structure VBox (w : World) (b : Nat) (v : V) : Prop where
  c0 : w.cell? ⟨b, 0, none⟩ = some (.bool v.num)
  c1 : w.cell? ⟨b, 1, none⟩ = some (.int .i64 v.n)
  c2 : w.cell? ⟨b, 2, none⟩ = some (.string ⟨v.s.toArray⟩)
  f0 : w.frozen? ⟨b, 0, none⟩ = false
  f1 : w.frozen? ⟨b, 1, none⟩ = false
  f2 : w.frozen? ⟨b, 2, none⟩ = false
  hz : b < w.heap.size
theorem VBox.grow {w w' : World} {b : Nat} {v : V} (h : VBox w b v) (hb : Below w.heap.size w w') : VBox w' b v := by
  obtain ⟨h0, h1, h2, h3, h4, h5, h6⟩ := h
  exact ⟨by rw [hb.cell (p := ⟨b, 0, none⟩) h6]; exact h0, by rw [hb.cell (p := ⟨b, 1, none⟩) h6]; exact h1, by rw [hb.cell (p := ⟨b, 2, none⟩) h6]; exact h2, by rw [hb.frozen (p := ⟨b, 0, none⟩) h6]; exact h3, by rw [hb.frozen (p := ⟨b, 1, none⟩) h6]; exact h4, by rw [hb.frozen (p := ⟨b, 2, none⟩) h6]; exact h5, Nat.lt_of_lt_of_le h6 hb.size⟩
theorem VBox.alloc {w : World} {b : Nat} {v : V} (h : VBox w b v) (o : Obj) : VBox (w.alloc o) b v := h.grow (balloc _ (.refl _ _))
theorem VBox.drew {w : World} {b : Nat} {v : V} (h : VBox w b v) : VBox w.drew b v := ⟨h.c0, h.c1, h.c2, h.f0, h.f1, h.f2, h.hz⟩
theorem VBox.other {w : World} {b c o : Nat} {v : V} {u : Value} (h : VBox w b v) (hc : c ≠ b) : VBox (w.setCell ⟨c, o, none⟩ u) b v := by
  obtain ⟨h0, h1, h2, h3, h4, h5, h6⟩ := h
  constructor <;> simp [cell_setCell, frozen_setCell, hc, h0, h1, h2, h3, h4, h5, h6]
theorem VBox.set {w : World} {b : Nat} {v u : V} (h : VBox w b u) : VBox (((w.setCell ⟨b, 0, none⟩ (.bool v.num)).setCell ⟨b, 1, none⟩ (.int .i64 v.n)).setCell ⟨b, 2, none⟩ (.string ⟨v.s.toArray⟩)) b v := by
  obtain ⟨h0, h1, h2, h3, h4, h5, h6⟩ := h
  constructor <;> simp [cell_setCell, frozen_setCell, h0, h1, h2, h3, h4, h5, h6]
theorem VBox.new (w : World) (v : V) (T : TypeId) : VBox (w.alloc (.cells #[.bool v.num, .int .i64 v.n, .string ⟨v.s.toArray⟩] T)) w.heap.size v := by
  constructor <;> simp [go_sem]
def ValMid (w : World) (g : Nat) (s : ByteArray) (a : Nat) (v : V) (k e' : Nat) (c : Act) (w' : World) : Prop :=
  ∃ g3, c = ⟨#[.pointer (some ⟨g, 0, none⟩), undef, .pointer (some ⟨w.heap.size, 0, none⟩), .pointer (some ⟨g3, 0, none⟩), .int .i64 k, .int .i64 e', .pointer (some ⟨g, 0, none⟩), .pointer (some ⟨g, 0, none⟩), .pointer (some ⟨g, 2, none⟩), .int .i64 0, .bool false, undef, .tuple #[.agg #[.bool v.num, .int .i64 v.n, .string ⟨v.s.toArray⟩], .int .i64 k, .int .i64 e'], .pointer (some ⟨g, 0, none⟩), .pointer (some ⟨g, 0, none⟩), .pointer (some ⟨g, 0, none⟩), .string s, .pointer (some ⟨g, 0, none⟩), .pointer (some ⟨g, 0, none⟩), .pointer (some ⟨g, 1, none⟩), .int .i64 a, .string (s.extract a s.size), .tuple #[.agg #[.bool v.num, .int .i64 v.n, .string ⟨v.s.toArray⟩], .int .i64 k, .int .i64 e'], .agg #[.bool v.num, .int .i64 v.n, .string ⟨v.s.toArray⟩], .int .i64 k, .int .i64 e', undef, undef, undef, undef, undef, undef, undef, undef, undef, undef, undef, undef, undef, undef], []⟩ ∧
    w.heap.size < g3 ∧ RAt w' g s a 0 ∧ Only g w w' ∧ VBox w' w.heap.size V.zero ∧ VBox w' g3 v
theorem cut_then {C : Code} {P : Program} {K : Act → World → Prop} {Q : Exit → Act → World → Prop} {a : Act} {w : World} (M : Act → World → Prop) (h1 : C.wp P (Exit.then M Q) a w) (h2 : ∀ a w, M a w → K a w) : C.wp P (Exit.then K Q) a w :=
  Code.wp_mono (fun e a w h => by cases e <;> first | exact h2 a w h | exact h) h1
set_option maxHeartbeats 3000000 in
theorem rvalM_c (g : Nat) (s : ByteArray) (hs : s.size ≤ 1000000000) (a e : Nat) (ha : a ≤ s.size) (he : e ≤ 3) (w : World) (h : RAt w g s a e) :
    Calls Try.prog 55 #[.pointer (some ⟨g, 0, none⟩)] w fun x w' => ValR w g s (rval s.data.toList (a, e)).1 (rval s.data.toList (a, e)).2.1 (rval s.data.toList (a, e)).2.2 x w' := by
  have HR := Lib.hid h
  have hgz := h.hz
  obtain ⟨c0, c1, c2, f1, f2, _⟩ := h
  have hgn : g ≠ w.heap.size := by omega
  by_cases h0 : e = 0
  · subst h0
    have hrv : rval s.data.toList (a, 0) = ((takeV (s.extract a s.size).data.toList).1, (a + (takeV (s.extract a s.size).data.toList).2.1, (takeV (s.extract a s.size).data.toList).2.2)) := by
      unfold rval; rw [if_neg (by simp), drop_str]
    have hvl := (rval_le s.data.toList a 0 (by rw [len_str]; exact ha)).1
    rw [len_str, hrv] at hvl
    rw [hrv]
    clear hrv
    have hxz : (s.extract a s.size).size ≤ 1000000000 := by rw [ByteArray.size_extract]; omega
    have hT := take_c (s.extract a s.size) hxz
    revert hT hvl
    generalize takeV (s.extract a s.size).data.toList = r
    obtain ⟨v, k, e'⟩ := r
    simp only
    intro hvl hT
    have HT := Lib.hid hT
    have x1 : (a : Int) ≤ s.size := by omega
    have x2 : (0 : Int) ≤ a := by omega
    have y2 : IntKind.i64.wrap ((a : Int) + k) = (a : Int) + k := IntWalk.i64_in _ (by omega)
    clear hT
    go_enter Try.func55, Try.ntmps55
    go_wp2_with fail
    refine cut_then (fun c w' => ValMid w g s a v k e' c w') ?_ ?_
    case refine_1 =>
      go_region_with (go_at_call 78; refine (HT.out _).mono ?_; rintro x w2 ⟨rfl, hb2⟩; obtain ⟨hc2, hf2⟩ := bcell hb2; have hsz2 := hb2.size; simp at hsz2)
      all_goals
        have hbA : Below w.heap.size w w2 := by
          (repeat (first | exact Below.refl _ _ | assumption | refine bdrew ?_ | refine balloc _ ?_ | refine bset _ (by simp) ?_ | refine bstep (by assumption) ?_ | refine Grow.below (by assumption) ?_ | refine Tryst2.Grow.below (by assumption) ?_))
        have hzA := hbA.size
        have HR2 := Lib.hid (HR.out.grow hbA)
        have HO2 := Lib.hid (Only.ofBelow hgz hbA)
        have hZ : VBox w2 w.heap.size V.zero := by
          constructor
          · rw [hc2 _ _ (by simp <;> omega)]; simp [go_sem, V.zero]
          · rw [hc2 _ _ (by simp <;> omega)]; simp [go_sem, V.zero]
          · rw [hc2 _ _ (by simp <;> omega)]; simp [go_sem, V.zero]
          · rw [hf2 _ _ (by simp <;> omega)]; simp [go_sem]
          · rw [hf2 _ _ (by simp <;> omega)]; simp [go_sem]
          · rw [hf2 _ _ (by simp <;> omega)]; simp [go_sem]
          · omega
        clear hbA hb2
        refine ⟨_, rfl, by omega, ?_, ?_, ?_, ?_⟩
        · (repeat (first | exact HR2.out | apply RAt.alloc | apply RAt.drew | (refine RAt.other ?_ (by omega))))
        · (repeat (first | exact HO2.out | (refine Only.alloc ?_ hgz _) | (refine Only.new ?_ hgz (by omega) _ _)))
        · (repeat (first | exact hZ | apply VBox.alloc | apply VBox.drew | (refine VBox.other ?_ (by omega))))
        · first
          | exact VBox.new _ _ _
          | (refine VBox.set (u := V.zero) ?_
             constructor
             · rw [hc2 _ _ (by simp <;> omega)]; simp [go_sem, V.zero]
             · rw [hc2 _ _ (by simp <;> omega)]; simp [go_sem, V.zero]
             · rw [hc2 _ _ (by simp <;> omega)]; simp [go_sem, V.zero]
             · rw [hf2 _ _ (by simp <;> omega)]; simp [go_sem]
             · rw [hf2 _ _ (by simp <;> omega)]; simp [go_sem]
             · rw [hf2 _ _ (by simp <;> omega)]; simp [go_sem]
             · omega)
    case refine_2 =>
      rintro c w' ⟨g3, rfl, hg3, hr, ho, hz, hv⟩
      have HRm := Lib.hid hr
      have HOm := Lib.hid ho
      have HZm := Lib.hid hz
      have HVm := Lib.hid hv
      obtain ⟨d0, d1, d2, d3, d4, d5⟩ := hr
      obtain ⟨q0, q1, q2, q3, q4, q5, q6⟩ := hz
      obtain ⟨r0, r1, r2, r3, r4, r5, r6⟩ := hv
      have n1 : g3 ≠ g := by omega
      have n2 : w.heap.size ≠ g := by omega
      have n3 : g3 ≠ w.heap.size := by omega
      clear ho c0 c1 c2 f1 f2
      have HRf := Lib.hid ((((HRm.out.put (a' := a + k) (e' := e') (x := (a : Int) + k) (by omega)).other (c := w.heap.size) (o := 0) (u := .bool v.num) n2).other (c := w.heap.size) (o := 1) (u := .int .i64 v.n) n2).other (c := w.heap.size) (o := 2) (u := .string ⟨v.s.toArray⟩) n2)
      have HOf := Lib.hid (((((HOm.out.set 1 (.int .i64 ((a : Int) + k))).set 2 (.int .i64 e')).new hgz (Nat.le_refl _) 0 (.bool v.num)).new hgz (Nat.le_refl _) 1 (.int .i64 v.n)).new hgz (Nat.le_refl _) 2 (.string ⟨v.s.toArray⟩))
      go_wp2_with fail
      exact bodyPost_ret (v := .agg #[.bool v.num, .int .i64 v.n, .string ⟨v.s.toArray⟩]) (by simp [results, Try.results55, go_sem, *]) rfl ⟨rfl, HRf.out, HOf.out⟩
  · have hrv : rval s.data.toList (a, e) = (V.zero, (a, e)) := by unfold rval; rw [if_pos h0]
    rw [hrv]
    clear hrv
    have e1' : ((e : Int) != 0) = true := by simp; omega
    go_enter Try.func55, Try.ntmps55
    go_wp2_with fail
    exact bodyPost_ret (v := .agg #[.bool false, .int .i64 0, .string ⟨#[]⟩]) (by simp [results, Try.results55, go_sem, *]) rfl ⟨rfl, HR.out.grow (balloc _ (.refl _ _)), Only.ofBelow hgz (balloc _ (.refl _ _))⟩
end Go.Proofs.Ytcbnehplilpidaa
