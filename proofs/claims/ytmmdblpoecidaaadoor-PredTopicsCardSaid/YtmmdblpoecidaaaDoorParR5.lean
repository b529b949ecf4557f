/- pred: the box -/
import Derived.Test.YtmmdblpoecidaaaDoorProg
import Derived.WalkKit
import Derived.WalkSpells
import Derived.WalkLawsBesides
import Derived.Lib.Hide
import Derived.Deep.RegionWith
import Derived.Deep.Cut
import Derived.IntWalk
import Derived.Test.YtmmdblpoecidaaaDoorParA5
set_option linter.unusedVariables false
set_option linter.unusedSimpArgs false
namespace Go.Proofs.YtmmdblpoecidaaaDoor
open Go.RowKit Tryst
set_option maxHeartbeats 2000000
set_option maxRecDepth 20000
/-- within a method of the parser's: its result's box, and the parser -/
structure RB (g : Nat) (s : ByteArray) (m : Nat) (w v : World) : Prop where
  p : ParP g s m 88 w v
  x : PBox v w.heap.size ⟨#[]⟩ ⟨#[]⟩ false 0 ⟨#[]⟩ (.slice none 0 0)
  z : ∀ j, v.frozen? ⟨w.heap.size, j, none⟩ = false
theorem RB.start {g m : Nat} {s : ByteArray} {w : World} (h : ParAt w g s m 88) : RB g s m w (w.alloc (.cells #[.string ⟨#[]⟩, .string ⟨#[]⟩, .bool false, .int .i64 0, .string ⟨#[]⟩, .slice none 0 0] 26)) :=
  ⟨(ParP.refl h).grow (balloc _ (.refl _ _)), PBox.new w ⟨#[]⟩ ⟨#[]⟩ false 0 ⟨#[]⟩ (.slice none 0 0) 26, fun j => by simp [go_sem]⟩
theorem RB.step {g m m' : Nat} {s s' : ByteArray} {w v v' : World} (h : RB g s m w v) (hg : g < w.heap.size) (hp : ParP g s' m' 88 v v') : RB g s' m' w v' := by
  have hne : w.heap.size ≠ g := by omega
  obtain ⟨h0, h1, h2, h3, h4, h5, h6⟩ := h.x
  exact ⟨h.p.trans hp, ⟨(hp.cell h6 hne 0).trans h0, (hp.cell h6 hne 1).trans h1, (hp.cell h6 hne 2).trans h2, (hp.cell h6 hne 3).trans h3, (hp.cell h6 hne 4).trans h4, (hp.cell h6 hne 5).trans h5, Nat.lt_of_lt_of_le h6 hp.size⟩, fun j => (hp.frozen h6 hne j).trans (h.z j)⟩
theorem RB.grow {g m : Nat} {s : ByteArray} {w v v' : World} (h : RB g s m w v) (hb : Below v.heap.size v v') : RB g s m w v' :=
  ⟨h.p.grow hb, h.x.grow hb, fun j => by rw [hb.frozen (p := ⟨w.heap.size, j, none⟩) h.x.hz]; exact h.z j⟩
theorem RB.set1 {g m : Nat} {s : ByteArray} {w v : World} (h : RB g s m w v) (hg : g < w.heap.size) (m' : Nat) : RB g s m' w (v.setCell ⟨g, 1, none⟩ (.int .i64 (m' : Int))) :=
  ⟨⟨h.p.os, h.p.tape, h.p.output, by simpa using h.p.size, fun k hk hkg => (Below.heap_setCell _ _ _ _ hkg).trans (h.p.block k hk hkg), h.p.at'.set1 m'⟩, h.x.away (by omega) _, fun j => by rw [frozen_setCell]; exact h.z j⟩
theorem RB.start1 {g m : Nat} {s : ByteArray} {w : World} (h : ParAt w g s m 88) (m' : Nat) : RB g s m' w ((w.setCell ⟨g, 1, none⟩ (.int .i64 (m' : Int))).alloc (.cells #[.string ⟨#[]⟩, .string ⟨#[]⟩, .bool false, .int .i64 0, .string ⟨#[]⟩, .slice none 0 0] 26)) := by
  have hz := h.cells.2.2.2.2
  have hp : ParP g s m' 88 w (w.setCell ⟨g, 1, none⟩ (.int .i64 (m' : Int))) :=
    ⟨rfl, rfl, rfl, by simp, fun k hk hkg => Below.heap_setCell _ _ _ _ hkg, h.set1 m'⟩
  have hx := PBox.new (w.setCell ⟨g, 1, none⟩ (.int .i64 (m' : Int))) ⟨#[]⟩ ⟨#[]⟩ false 0 ⟨#[]⟩ (.slice none 0 0) 26
  rw [show (w.setCell ⟨g, 1, none⟩ (.int .i64 (m' : Int))).heap.size = w.heap.size by simp] at hx
  exact ⟨hp.grow (balloc _ (.refl _ _)), hx, fun j => by simp [go_sem]⟩
theorem RB.facts {g m : Nat} {s : ByteArray} {w v : World} (h : RB g s m w v) : (v.cell? ⟨g, 0, none⟩ = some (.string s) ∧ v.cell? ⟨g, 1, none⟩ = some (.int .i64 m) ∧ v.frozen? ⟨g, 0, none⟩ = false ∧ v.frozen? ⟨g, 1, none⟩ = false ∧ g < v.heap.size) ∧ (v.cell? ⟨w.heap.size, 0, none⟩ = some (.string ⟨#[]⟩) ∧ v.cell? ⟨w.heap.size, 1, none⟩ = some (.string ⟨#[]⟩) ∧ v.cell? ⟨w.heap.size, 2, none⟩ = some (.bool false) ∧ v.cell? ⟨w.heap.size, 3, none⟩ = some (.int .i64 0) ∧ v.cell? ⟨w.heap.size, 4, none⟩ = some (.string ⟨#[]⟩) ∧ v.cell? ⟨w.heap.size, 5, none⟩ = some (.slice none 0 0)) ∧ (v.frozen? ⟨w.heap.size, 0, none⟩ = false ∧ v.frozen? ⟨w.heap.size, 1, none⟩ = false ∧ v.frozen? ⟨w.heap.size, 2, none⟩ = false ∧ v.frozen? ⟨w.heap.size, 3, none⟩ = false ∧ v.frozen? ⟨w.heap.size, 4, none⟩ = false ∧ v.frozen? ⟨w.heap.size, 5, none⟩ = false) ∧ w.heap.size < v.heap.size :=
  ⟨h.p.at'.cells, ⟨h.x.c0, h.x.c1, h.x.c2, h.x.c3, h.x.c4, h.x.c5⟩, ⟨h.z 0, h.z 1, h.z 2, h.z 3, h.z 4, h.z 5⟩, h.x.hz⟩
/-- a word that does not stand there -/
theorem skip_no (g m : Nat) (s word : ByteArray) (hs : skipP s word = (s, false)) (w : World) (h : ParAt w g s m 88) :
    Calls Tryd.prog 60 #[.pointer (some ⟨g, 0, none⟩), .string word] w fun e w' => e = .returned (.bool false) ∧ ParP g s m 88 w w' := by
  have h1 := skip_c g m s word w h
  rw [hs] at h1
  exact h1
theorem skip_yes (g m : Nat) (s s' word : ByteArray) (hs : skipP s word = (s', true)) (w : World) (h : ParAt w g s m 88) :
    Calls Tryd.prog 60 #[.pointer (some ⟨g, 0, none⟩), .string word] w fun e w' => e = .returned (.bool true) ∧ ParP g s' m 88 w w' := by
  have h1 := skip_c g m s word w h
  rw [hs] at h1
  exact h1
theorem pred_none_c (g m : Nat) (hm : m + 1 ≤ 40) (r : Int) (hr : 1 ≤ r) (w : World) (h : ParAt w g ⟨#[32, 120, 32, 61, 32, 53, 41]⟩ m 88) :
    Calls Tryd.prog 48 #[.pointer (some ⟨g, 0, none⟩), .int .i64 r] w fun e w' => e = .returned (.tuple #[(leafB ⟨#[]⟩ ⟨#[]⟩ ⟨false, 0, []⟩).agg, .bool false]) ∧ ParP g ⟨#[32, 120, 32, 61, 32, 53, 41]⟩ (m + 1) 88 w w' := by
  have hgw := h.cells.2.2.2.2
  have HR1 := Lib.hid (RB.start1 h (m + 1))
  obtain ⟨c0, c1, f0, f1, _⟩ := h.cells
  have y1 : ¬ r < 1 := by omega
  have y2 : ¬ (40 : Int) < (m : Int) + 1 := by omega
  clear h
  go_enter Tryd.func48, Tryd.ntmps48
  go_upto_region 2 with fail
  refine wp_genC (fun v => Hid (RB g ⟨#[32, 120, 32, 61, 32, 53, 41]⟩ (m + 1) w v)) ?_ ?_
  · show RB _ _ _ _ _
    first | exact HR1.out | (rw [show ((m + 1 : Nat) : Int) = (m : Int) + 1 by omega] at HR1; exact HR1.out)
  clear HR1 c0 c1 f0 f1
  rintro w1 HR1
  obtain ⟨⟨d0, d1, e0, e1, dz⟩, _⟩ := HR1.out.facts
  go_wp2_with fail
  refine (skip_no g (m + 1) _ _ (by rfl) _ HR1.out.p.at').mono ?_
  rintro e w2 ⟨rfl, hp2⟩
  have HR2 := Lib.hid (HR1.out.step hgw hp2)
  clear hp2 HR1 d0 d1 e0 e1 dz
  go_wp2_with fail
  refine (skip_no g (m + 1) _ _ (by rfl) _ HR2.out.p.at').mono ?_
  rintro e w3 ⟨rfl, hp3⟩
  have HR3 := Lib.hid (HR2.out.step hgw hp3)
  clear hp3 HR2
  go_wp2_with fail
  refine (skip_no g (m + 1) _ _ (by rfl) _ HR3.out.p.at').mono ?_
  rintro e w4 ⟨rfl, hp4⟩
  have HR4 := Lib.hid (HR3.out.step hgw hp4)
  clear hp4 HR3
  go_wp2_with fail
  refine (skip_no g (m + 1) _ _ (by rfl) _ HR4.out.p.at').mono ?_
  rintro e w5 ⟨rfl, hp5⟩
  have HR5 := Lib.hid (HR4.out.step hgw hp5)
  clear hp5 HR4
  obtain ⟨_, ⟨qx0, qx1, qx2, qx3, qx4, qx5⟩, ⟨qz0, qz1, qz2, qz3, qz4, qz5⟩, qzz⟩ := HR5.out.facts
  go_wp2_with fail
  refine bodyPost_ret (v := .tuple #[(leafB ⟨#[]⟩ ⟨#[]⟩ ⟨false, 0, []⟩).agg, .bool false]) (by simp [results, Tryd.results48, go_sem, leafB, PB.agg, PB.op, PB.s, PB.num, PB.n, PB.vs, PB.a, PB.c, PB.l, *]) rfl ⟨rfl, ?_⟩
  (repeat (first | with_reducible exact HR5.out.p | with_reducible apply ParP.drew | with_reducible refine ParP.setB ?_ (Nat.le_refl _) (by omega) _))
end Go.Proofs.YtmmdblpoecidaaaDoor
