/- The parser on the examples. -/
import Derived.Test.YtmmdblpoecidaaaGreatDoorProg
import Derived.WalkKit
import Derived.WalkSpells
import Derived.WalkLawsBesides
import Derived.Lib.Hide
import Derived.Deep.RegionWith
import Derived.Deep.Cut
import Derived.IntWalk
import Derived.Test.YtmmdblpoecidaaaGreatDoorMay5
import Derived.Test.YtmmdblpoecidaaaGreatDoorShelf
import Derived.Test.YtmmdblpoecidaaaGreatDoorVal7
import Derived.Test.YtmmdblpoecidaaaGreatDoorPuts4
import Derived.Test.YtmmdblpoecidaaaGreatDoorRd3
set_option linter.unusedVariables false
set_option linter.unusedSimpArgs false
namespace Tryst
open Go Go.RowKit
/-- a text goes on behind a word, if that stands ahead -/
def skipP (s w : ByteArray) : ByteArray × Bool := (⟨(Lib.trimPrefix s.data.toList w.data.toList).toArray⟩, Lib.hasPrefix s.data.toList w.data.toList)
/-- a parser: what is left, and how many nodes were counted -/
def ParAt (w : World) (g : Nat) (s : ByteArray) (m : Nat) (T : TypeId) : Prop := w.heap[g]? = some (.cells #[.string s, .int .i64 m] T (0, 0))
/-- block g alone has turned: it is the parser; new blocks -/
structure ParP (g : Nat) (s : ByteArray) (m : Nat) (T : TypeId) (w w' : World) : Prop where
  os : w'.os = w.os
  tape : w'.tape = w.tape
  output : w'.output = w.output
  size : w.heap.size ≤ w'.heap.size
  block : ∀ k, k < w.heap.size → k ≠ g → w'.heap[k]? = w.heap[k]?
  at' : ParAt w' g s m T
theorem ParP.refl {g m : Nat} {s : ByteArray} {T : TypeId} {w : World} (h : ParAt w g s m T) : ParP g s m T w w := ⟨rfl, rfl, rfl, Nat.le_refl _, fun _ _ _ => rfl, h⟩
theorem ParP.trans {g m m' : Nat} {s s' : ByteArray} {T : TypeId} {a b c : World} (h : ParP g s m T a b) (k : ParP g s' m' T b c) : ParP g s' m' T a c :=
  ⟨k.os.trans h.os, k.tape.trans h.tape, k.output.trans h.output, Nat.le_trans h.size k.size, fun i hi hg => (k.block i (Nat.lt_of_lt_of_le hi h.size) hg).trans (h.block i hi hg), k.at'⟩
theorem ParP.grow {g m : Nat} {s : ByteArray} {T : TypeId} {a b c : World} (h : ParP g s m T a b) (hb : Below b.heap.size b c) : ParP g s m T a c :=
  ⟨hb.os.trans h.os, hb.tape.trans h.tape, hb.output.trans h.output, Nat.le_trans h.size hb.size, fun k hk hg => (hb.block k (Nat.lt_of_lt_of_le hk h.size)).trans (h.block k hk hg), (hb.block g (Array.getElem?_eq_some_iff.1 h.at').1).trans h.at'⟩
theorem ParP.below {g m B : Nat} {s : ByteArray} {T : TypeId} {a b c : World} (h : ParP g s m T b c) (k : Below B a b) (hB : B ≤ g) (hz : B ≤ b.heap.size) : Below B a c :=
  ⟨h.os.trans k.os, h.tape.trans k.tape, h.output.trans k.output, Nat.le_trans k.size h.size, fun i hi => (h.block i (by omega) (by omega)).trans (k.block i hi)⟩
theorem ParP.cell {g m : Nat} {s : ByteArray} {T : TypeId} {a b : World} (h : ParP g s m T a b) {k : Nat} (hk : k < a.heap.size) (hg : k ≠ g) (o : Nat) : b.cell? ⟨k, o, none⟩ = a.cell? ⟨k, o, none⟩ := World.cell?_of_block (w := a) (a := ⟨k, o, none⟩) (h.block k hk hg)
theorem ParP.frozen {g m : Nat} {s : ByteArray} {T : TypeId} {a b : World} (h : ParP g s m T a b) {k : Nat} (hk : k < a.heap.size) (hg : k ≠ g) (o : Nat) : b.frozen? ⟨k, o, none⟩ = a.frozen? ⟨k, o, none⟩ := World.frozen?_of_block (w := a) (a := ⟨k, o, none⟩) (h.block k hk hg)
theorem ParP.drew {g m : Nat} {s : ByteArray} {T : TypeId} {a b : World} (h : ParP g s m T a b) : ParP g s m T a b.drew := ⟨h.os, h.tape, h.output, h.size, h.block, h.at'⟩
theorem ParP.setB {w w' : World} {g m : Nat} {s : ByteArray} {T : TypeId} (h : ParP g s m T w w') {b o : Nat} (hb : w.heap.size ≤ b) (hg : b ≠ g) (v : Value) : ParP g s m T w (w'.setCell ⟨b, o, none⟩ v) :=
  ⟨h.os, h.tape, h.output, by simpa using h.size, fun k hk hg => (Below.heap_setCell _ _ _ _ (by show k ≠ b; omega)).trans (h.block k hk hg), (Below.heap_setCell _ _ _ _ (fun e => hg e.symm)).trans h.at'⟩
theorem ParAt.cells {w : World} {g m : Nat} {s : ByteArray} {T : TypeId} (h : ParAt w g s m T) : w.cell? ⟨g, 0, none⟩ = some (.string s) ∧ w.cell? ⟨g, 1, none⟩ = some (.int .i64 m) ∧ w.frozen? ⟨g, 0, none⟩ = false ∧ w.frozen? ⟨g, 1, none⟩ = false ∧ g < w.heap.size :=
  ⟨by rw [Lib.cell_of_heap h]; rfl, by rw [Lib.cell_of_heap h]; rfl, Lib.frozen_of_heap h 0, Lib.frozen_of_heap h 1, (Array.getElem?_eq_some_iff.1 h).1⟩
theorem ParAt.set0 {w : World} {g m : Nat} {s : ByteArray} {T : TypeId} (h : ParAt w g s m T) (s' : ByteArray) : ParAt (w.setCell ⟨g, 0, none⟩ (.string s')) g s' m T := by
  unfold ParAt at h ⊢
  simp [World.setCell, Array.getElem?_modify, h]
theorem ParAt.set1 {w : World} {g m : Nat} {s : ByteArray} {T : TypeId} (h : ParAt w g s m T) (m' : Nat) : ParAt (w.setCell ⟨g, 1, none⟩ (.int .i64 (m' : Int))) g s m' T := by
  unfold ParAt at h ⊢
  simp [World.setCell, Array.getElem?_modify, h]
theorem ParP.set0 {g m : Nat} {s : ByteArray} {T : TypeId} {a b : World} (h : ParP g s m T a b) (s' : ByteArray) : ParP g s' m T a (b.setCell ⟨g, 0, none⟩ (.string s')) :=
  ⟨h.os, h.tape, h.output, by simpa using h.size, fun k hk hg => (Below.heap_setCell _ _ _ _ hg).trans (h.block k hk hg), h.at'.set0 s'⟩
end Tryst
namespace Go.Proofs.YtmmdblpoecidaaaGreatDoor
open Go.RowKit Tryst
set_option maxHeartbeats 1000000
set_option maxRecDepth 20000
theorem PBox.away {w : World} {b c j : Nat} {op s : ByteArray} {num : Bool} {n : Int} {vs : ByteArray} {u : Value} (h : PBox w b op s num n vs u) (hc : c ≠ b) (v : Value) : PBox (w.setCell ⟨c, j, none⟩ v) b op s num n vs u := by
  obtain ⟨h0, h1, h2, h3, h4, h5, h6⟩ := h
  constructor <;> simp [cell_setCell, h0, h1, h2, h3, h4, h5, h6, hc]
theorem skip_c (g m : Nat) (s word : ByteArray) (w : World) (h : ParAt w g s m 58) :
    Calls Tryz.prog 33 #[.pointer (some ⟨g, 0, none⟩), .string word] w fun e w' => e = .returned (.bool (skipP s word).2) ∧ ParP g (skipP s word).1 m 58 w w' := by
  have H := Lib.hid h
  obtain ⟨c0, c1, f0, f1, hz⟩ := h.cells
  have HC := Lib.hid (fun (W : World) => Tryz.strings_CutPrefix s word W)
  clear h
  go_enter Tryz.func33, Tryz.ntmps33
  go_wp2_with fail
  refine (HC.out w).mono ?_
  rintro e w1 ⟨rfl, rfl⟩
  go_wp2_with fail
  go_ret
  exact ⟨rfl, (ParP.refl H.out).set0 _⟩
/-- a predicate of a text's: no parts -/
def leafB (op s : ByteArray) (v : V) : PB := .mk op s v.num v.n ⟨v.s.toArray⟩ none 0 []
theorem leaf_mem (op s : ByteArray) (v : V) (hs : s.size ≤ 1000000000) (hv : v.s.length ≤ 1000000000) (w : World) : PMem w (leafB op s v) :=
  .mk _ _ _ _ _ _ _ _ hs (by show v.s.toArray.size ≤ _; simpa using hv) (by simp) (Row.nil _ _ _) (fun x hx => by cases hx)
/-- what a method of the parser's hands back -/
def ParR (g : Nat) (w : World) (r : Option PB) (s : ByteArray) (m : Nat) (e : Ending) (w' : World) : Prop :=
  (∃ p : PB, e = .returned (.tuple #[p.agg, .bool r.isSome]) ∧ ∀ q, r = some q → p = q) ∧ ParP g s m 58 w w'
/-- a comparison's value, and the ) behind it -/
theorem compared_c (g m : Nat) (s0 op field rest : ByteArray) (v : V) (k : Nat) (hk : 0 < k) (hkl : k ≤ rest.size) (hr : rest.size ≤ 1000000) (hrd : readV rest.data.toList = (v, k)) (w : World) (h : ParAt w g s0 m 58) :
    Calls Tryz.prog 58 #[.pointer (some ⟨g, 0, none⟩), .string op, .string field, .string rest] w fun e w' => e = .returned (.tuple #[(leafB op field v).agg, .bool (skipP (rest.extract k rest.size) ⟨#[41]⟩).2]) ∧ ParP g (skipP (rest.extract k rest.size) ⟨#[41]⟩).1 m 58 w w' := by
  have H := Lib.hid h
  obtain ⟨c0, c1, f0, f1, hz⟩ := h.cells
  have hrc := read_c rest hr
  rw [hrd] at hrc
  rw [show readE k = 0 by unfold readE; rw [if_neg (by omega)]] at hrc
  have HR := Lib.hid hrc
  clear h hrd hrc
  have x1 : (0 : Int) ≤ k := by omega
  have x2 : (k : Int) ≤ rest.size := by omega
  go_enter Tryz.func58, Tryz.ntmps58
  go_wp2_with fail
  refine (HR.out _).mono ?_
  rintro e w1 ⟨rfl, hb1⟩
  have HP1 := Lib.hid (((ParP.refl H.out).grow (balloc (.cells #[.string ⟨#[]⟩, .string ⟨#[]⟩, .bool false, .int .i64 0, .string ⟨#[]⟩, .slice none 0 0] 26) (.refl _ _))).grow hb1)
  have hX0 := (PBox.new w ⟨#[]⟩ ⟨#[]⟩ false 0 ⟨#[]⟩ (.slice none 0 0) 26).grow hb1
  obtain ⟨hc1, hf1⟩ := bcell hb1
  have hF0 : ∀ j, w1.frozen? ⟨w.heap.size, j, none⟩ = false := fun j => by rw [hf1 _ _ (by simp)]; simp [go_sem]
  have HX0 := Lib.hid hX0
  have HF0 := Lib.hid hF0
  clear hb1 hc1 hf1 hX0 hF0
  go_upto_region 4 with fail
  refine wp_genC (fun v' => Hid (ParP g s0 m 58 w v') ∧ Hid (PBox v' w.heap.size ⟨#[]⟩ ⟨#[]⟩ false 0 ⟨#[]⟩ (.slice none 0 0)) ∧ Hid (∀ j, v'.frozen? ⟨w.heap.size, j, none⟩ = false) ∧ Hid (VB3 v' w1.heap.size v.num v.n ⟨v.s.toArray⟩) ∧ w.heap.size < w1.heap.size) ⟨HP1.out.grow (balloc _ (.refl _ _)), HX0.out.grow (balloc _ (.refl _ _)), ?_, VB3.new w1 v.num v.n ⟨v.s.toArray⟩ 23, HX0.out.hz⟩ ?_
  · show ∀ j, _
    intro j
    rw [(balloc (.cells #[.bool v.num, .int .i64 v.n, .string ⟨v.s.toArray⟩] 23) (.refl w1.heap.size w1)).frozen (p := ⟨w.heap.size, j, none⟩) HX0.out.hz]
    exact HF0.out j
  clear HP1 HX0 HF0
  rintro Y ⟨HPY, HXY, HFY, HVY, hwz⟩
  generalize w1.heap.size = B1 at HVY hwz ⊢
  obtain ⟨d0, d1, e0, e1, dz⟩ := HPY.out.at'.cells
  obtain ⟨v0, v1, v2, v3⟩ := HVY.out
  have hgw : g < w.heap.size := hz
  go_upto_region 5 with fail
  refine wp_genC (fun v' => Hid (ParP g (rest.extract k rest.size) m 58 w v') ∧ Hid (PBox v' w.heap.size ⟨#[]⟩ ⟨#[]⟩ false 0 ⟨#[]⟩ (.slice none 0 0)) ∧ Hid (∀ j, v'.frozen? ⟨w.heap.size, j, none⟩ = false) ∧ Hid (VB3 v' B1 v.num v.n ⟨v.s.toArray⟩)) ⟨HPY.out.set0 _, HXY.out.away (by omega) _, ?_, HVY.out.away (by omega)⟩ ?_
  · show ∀ j, _
    intro j
    rw [frozen_setCell]
    exact HFY.out j
  clear HPY HXY HFY HVY d0 d1 e0 e1 v0 v1 v2 v3 dz
  rintro Z ⟨HPZ, HXZ, HFZ, HVZ⟩
  have HSK := Lib.hid (skip_c g m (rest.extract k rest.size) ⟨#[41]⟩ Z HPZ.out.at')
  have HSK1 := Lib.hid (skip_c g m (rest.extract k rest.size) ⟨#[41]⟩ Z.drew HPZ.out.at')
  obtain ⟨d0, d1, e0, e1, dz⟩ := HPZ.out.at'.cells
  obtain ⟨v0, v1, v2, v3⟩ := HVZ.out
  obtain ⟨x0, x1, x2, x3, x4, x5, x6⟩ := HXZ.out
  have z0 := HFZ.out 0
  have z1 := HFZ.out 1
  have z2 := HFZ.out 2
  have z3 := HFZ.out 3
  have z4 := HFZ.out 4
  have z5 := HFZ.out 5
  go_region_with (go_at_call 33; (first | refine HSK.out.mono ?_ | refine HSK1.out.mono ?_); rintro x w2 ⟨rfl, hp2⟩; have qv0 := (hp2.cell v3 (by omega) 0).trans v0; have qv1 := (hp2.cell v3 (by omega) 1).trans v1; have qv2 := (hp2.cell v3 (by omega) 2).trans v2; have qx0 := (hp2.cell x6 (by omega) 0).trans x0; have qx1 := (hp2.cell x6 (by omega) 1).trans x1; have qx2 := (hp2.cell x6 (by omega) 2).trans x2; have qx3 := (hp2.cell x6 (by omega) 3).trans x3; have qx4 := (hp2.cell x6 (by omega) 4).trans x4; have qx5 := (hp2.cell x6 (by omega) 5).trans x5; have qz0 := (hp2.frozen x6 (by omega) 0).trans z0; have qz1 := (hp2.frozen x6 (by omega) 1).trans z1; have qz2 := (hp2.frozen x6 (by omega) 2).trans z2; have qz3 := (hp2.frozen x6 (by omega) 3).trans z3; have qz4 := (hp2.frozen x6 (by omega) 4).trans z4; have qz5 := (hp2.frozen x6 (by omega) 5).trans z5; have qzz : w.heap.size < w2.heap.size := Nat.lt_of_lt_of_le x6 hp2.size)
  all_goals
    have HPF := Lib.hid (ParP.trans HPZ.out ⟨hp2.os, hp2.tape, hp2.output, hp2.size, hp2.block, hp2.at'⟩)
    clear hp2 d0 d1 e0 e1 v0 v1 v2 x0 x1 x2 x3 x4 x5 z0 z1 z2 z3 z4 z5 HSK HSK1 HXZ HFZ HVZ HPZ
    go_wp2_with fail
    refine bodyPost_ret (v := .tuple #[(leafB op field v).agg, .bool (skipP (rest.extract k rest.size) ⟨#[41]⟩).2]) (by simp [results, Tryz.results58, go_sem, leafB, PB.agg, PB.op, PB.s, PB.num, PB.n, PB.vs, PB.a, PB.c, PB.l, *]) rfl ⟨rfl, ?_⟩
    (repeat (first | with_reducible exact HPF.out | with_reducible apply ParP.drew | with_reducible refine ParP.setB ?_ (Nat.le_refl _) (by omega) _))
end Go.Proofs.YtmmdblpoecidaaaGreatDoor
namespace Go.Proofs.YtmmdblpoecidaaaGreatDoor
open Go.RowKit Tryst
set_option maxHeartbeats 2000000
set_option maxRecDepth 20000
theorem five_read : readV (⟨#[53, 41]⟩ : ByteArray).data.toList = (⟨true, 5, []⟩, 1) := by rfl
theorem x_field : fieldB (⟨#[120]⟩ : ByteArray).data.toList = true := by rfl
theorem inner_eq_c (g m : Nat) (r : Int) (w : World) (hM : MaxW w) (h : ParAt w g ⟨#[120, 32, 61, 32, 53, 41]⟩ m 58) :
    Calls Tryz.prog 35 #[.pointer (some ⟨g, 0, none⟩), .int .i64 r] w fun e w' => e = .returned (.tuple #[(leafB ⟨#[101, 113]⟩ ⟨#[120]⟩ ⟨true, 5, []⟩).agg, .bool true]) ∧ ParP g ⟨#[]⟩ m 58 w w' := by
  have H := Lib.hid h
  have HM := Lib.hid hM
  obtain ⟨c0, c1, f0, f1, hz⟩ := h.cells
  have HC := Lib.hid (fun (W : World) (hM : MaxW W) => by
    obtain ⟨⟨mm, hm⟩, _⟩ := hM
    have h1 := Tryz.strings_Cut ⟨#[120, 32, 61, 32, 53, 41]⟩ ⟨#[32]⟩ mm W (by decide) hm
    rw [show Lib.cut (⟨#[120, 32, 61, 32, 53, 41]⟩ : ByteArray).data.toList (⟨#[32]⟩ : ByteArray).data.toList = ([120], [61, 32, 53, 41], true) from by rfl] at h1
    have h2 : Calls Tryz.prog 55 #[.string ⟨#[120, 32, 61, 32, 53, 41]⟩, .string ⟨#[32]⟩] W fun e w' => e = .returned (.tuple #[.string ⟨#[120]⟩, .string ⟨#[61, 32, 53, 41]⟩, .bool true]) ∧ Below W.heap.size W w' := h1.mono fun e w' ⟨he, n, hw⟩ => ⟨he, by rw [hw]; exact below_drewN W n⟩
    exact h2)
  have HFD := Lib.hid (fun (W : World) (hM : MaxW W) => field_c ⟨#[120]⟩ (by decide) W hM)
  rw [x_field] at HFD
  have HE := Lib.hid (fun (W : World) => Tryz.strings_HasPrefix ⟨#[61, 32, 53, 41]⟩ ⟨#[61, 32]⟩ W)
  rw [show Lib.hasPrefix (⟨#[61, 32, 53, 41]⟩ : ByteArray).data.toList (⟨#[61, 32]⟩ : ByteArray).data.toList = true from by rfl] at HE
  have HL := Lib.hid (fun (W : World) => Tryz.strings_HasPrefix ⟨#[61, 32, 53, 41]⟩ ⟨#[60, 32]⟩ W)
  rw [show Lib.hasPrefix (⟨#[61, 32, 53, 41]⟩ : ByteArray).data.toList (⟨#[60, 32]⟩ : ByteArray).data.toList = !true from by rfl] at HL
  have HCP := Lib.hid (fun (W : World) (h : ParAt W g ⟨#[120, 32, 61, 32, 53, 41]⟩ m 58) => compared_c g m ⟨#[120, 32, 61, 32, 53, 41]⟩ ⟨#[101, 113]⟩ ⟨#[120]⟩ ⟨#[53, 41]⟩ ⟨true, 5, []⟩ 1 (by decide) (by decide) (by decide) five_read W h)
  rw [show skipP ((⟨#[53, 41]⟩ : ByteArray).extract 1 (⟨#[53, 41]⟩ : ByteArray).size) ⟨#[41]⟩ = (⟨#[]⟩, true) from by rfl] at HCP
  unfold leafB PB.agg at HCP
  simp only [PB.op, PB.s, PB.num, PB.n, PB.vs, PB.a, PB.c, PB.l, List.length_nil] at HCP
  have HB0 := Lib.hid (balloc (.cells #[.string ⟨#[]⟩, .string ⟨#[]⟩, .bool false, .int .i64 0, .string ⟨#[]⟩, .slice none 0 0] 26) (.refl w.heap.size w))
  clear h hM
  go_enter Tryz.func35, Tryz.ntmps35
  go_wp2_with fail
  refine (HC.out _ (HM.out.grow HB0.out)).mono ?_
  rintro e w1 ⟨rfl, hb1⟩
  have HP1 := Lib.hid (((ParP.refl H.out).grow (balloc (.cells #[.string ⟨#[]⟩, .string ⟨#[]⟩, .bool false, .int .i64 0, .string ⟨#[]⟩, .slice none 0 0] 26) (.refl _ _))).grow hb1)
  have HX1 := Lib.hid ((PBox.new w ⟨#[]⟩ ⟨#[]⟩ false 0 ⟨#[]⟩ (.slice none 0 0) 26).grow hb1)
  have HZ1 : Hid (∀ j, w1.frozen? ⟨w.heap.size, j, none⟩ = false) := Lib.hid (fun j => by rw [hb1.frozen (p := ⟨w.heap.size, j, none⟩) (by simp)]; simp [go_sem])
  have HB1 := Lib.hid (bstep hb1 HB0.out)
  clear hb1
  go_wp2_with fail
  refine (HFD.out w1 (HM.out.grow HB1.out)).mono ?_
  rintro e w2 ⟨rfl, hb2⟩
  have HP2 := Lib.hid (HP1.out.grow hb2)
  have HX2 := Lib.hid (HX1.out.grow hb2)
  have HZ2 : Hid (∀ j, w2.frozen? ⟨w.heap.size, j, none⟩ = false) := Lib.hid (fun j => by rw [hb2.frozen (p := ⟨w.heap.size, j, none⟩) HX1.out.hz]; exact HZ1.out j)
  clear hb2 HP1 HX1 HZ1 HB1
  go_wp2_with fail
  refine (HE.out w2).mono ?_
  rintro e w3 ⟨rfl, hw3⟩
  rw [hw3]
  clear hw3
  go_wp2_with fail
  refine (HCP.out w2 HP2.out.at').mono ?_
  rintro e w4 ⟨rfl, hp4⟩
  have HP4 := Lib.hid (HP2.out.trans hp4)
  have hwg : w.heap.size ≠ g := by omega
  have qx0 := (hp4.cell HX2.out.hz hwg 0).trans HX2.out.c0
  have qx1 := (hp4.cell HX2.out.hz hwg 1).trans HX2.out.c1
  have qx2 := (hp4.cell HX2.out.hz hwg 2).trans HX2.out.c2
  have qx3 := (hp4.cell HX2.out.hz hwg 3).trans HX2.out.c3
  have qx4 := (hp4.cell HX2.out.hz hwg 4).trans HX2.out.c4
  have qx5 := (hp4.cell HX2.out.hz hwg 5).trans HX2.out.c5
  have qz0 := (hp4.frozen HX2.out.hz hwg 0).trans (HZ2.out 0)
  have qz1 := (hp4.frozen HX2.out.hz hwg 1).trans (HZ2.out 1)
  have qz2 := (hp4.frozen HX2.out.hz hwg 2).trans (HZ2.out 2)
  have qz3 := (hp4.frozen HX2.out.hz hwg 3).trans (HZ2.out 3)
  have qz4 := (hp4.frozen HX2.out.hz hwg 4).trans (HZ2.out 4)
  have qz5 := (hp4.frozen HX2.out.hz hwg 5).trans (HZ2.out 5)
  have qzz : w.heap.size < w4.heap.size := Nat.lt_of_lt_of_le HX2.out.hz hp4.size
  clear hp4 HP2 HX2 HZ2
  go_wp2_with fail
  refine bodyPost_ret (v := .tuple #[(leafB ⟨#[101, 113]⟩ ⟨#[120]⟩ ⟨true, 5, []⟩).agg, .bool true]) (by simp [results, Tryz.results35, go_sem, leafB, PB.agg, PB.op, PB.s, PB.num, PB.n, PB.vs, PB.a, PB.c, PB.l, *]) rfl ⟨rfl, ?_⟩
  (repeat (first | with_reducible exact HP4.out | with_reducible apply ParP.drew | with_reducible refine ParP.setB ?_ (Nat.le_refl _) (by omega) _))
theorem inner_lt_c (g m : Nat) (r : Int) (w : World) (hM : MaxW w) (h : ParAt w g ⟨#[120, 32, 60, 32, 53, 41]⟩ m 58) :
    Calls Tryz.prog 35 #[.pointer (some ⟨g, 0, none⟩), .int .i64 r] w fun e w' => e = .returned (.tuple #[(leafB ⟨#[108, 116]⟩ ⟨#[120]⟩ ⟨true, 5, []⟩).agg, .bool true]) ∧ ParP g ⟨#[]⟩ m 58 w w' := by
  have H := Lib.hid h
  have HM := Lib.hid hM
  obtain ⟨c0, c1, f0, f1, hz⟩ := h.cells
  have HC := Lib.hid (fun (W : World) (hM : MaxW W) => by
    obtain ⟨⟨mm, hm⟩, _⟩ := hM
    have h1 := Tryz.strings_Cut ⟨#[120, 32, 60, 32, 53, 41]⟩ ⟨#[32]⟩ mm W (by decide) hm
    rw [show Lib.cut (⟨#[120, 32, 60, 32, 53, 41]⟩ : ByteArray).data.toList (⟨#[32]⟩ : ByteArray).data.toList = ([120], [60, 32, 53, 41], true) from by rfl] at h1
    have h2 : Calls Tryz.prog 55 #[.string ⟨#[120, 32, 60, 32, 53, 41]⟩, .string ⟨#[32]⟩] W fun e w' => e = .returned (.tuple #[.string ⟨#[120]⟩, .string ⟨#[60, 32, 53, 41]⟩, .bool true]) ∧ Below W.heap.size W w' := h1.mono fun e w' ⟨he, n, hw⟩ => ⟨he, by rw [hw]; exact below_drewN W n⟩
    exact h2)
  have HFD := Lib.hid (fun (W : World) (hM : MaxW W) => field_c ⟨#[120]⟩ (by decide) W hM)
  rw [x_field] at HFD
  have HE := Lib.hid (fun (W : World) => Tryz.strings_HasPrefix ⟨#[60, 32, 53, 41]⟩ ⟨#[61, 32]⟩ W)
  rw [show Lib.hasPrefix (⟨#[60, 32, 53, 41]⟩ : ByteArray).data.toList (⟨#[61, 32]⟩ : ByteArray).data.toList = false from by rfl] at HE
  have HL := Lib.hid (fun (W : World) => Tryz.strings_HasPrefix ⟨#[60, 32, 53, 41]⟩ ⟨#[60, 32]⟩ W)
  rw [show Lib.hasPrefix (⟨#[60, 32, 53, 41]⟩ : ByteArray).data.toList (⟨#[60, 32]⟩ : ByteArray).data.toList = !false from by rfl] at HL
  have HCP := Lib.hid (fun (W : World) (h : ParAt W g ⟨#[120, 32, 60, 32, 53, 41]⟩ m 58) => compared_c g m ⟨#[120, 32, 60, 32, 53, 41]⟩ ⟨#[108, 116]⟩ ⟨#[120]⟩ ⟨#[53, 41]⟩ ⟨true, 5, []⟩ 1 (by decide) (by decide) (by decide) five_read W h)
  rw [show skipP ((⟨#[53, 41]⟩ : ByteArray).extract 1 (⟨#[53, 41]⟩ : ByteArray).size) ⟨#[41]⟩ = (⟨#[]⟩, true) from by rfl] at HCP
  unfold leafB PB.agg at HCP
  simp only [PB.op, PB.s, PB.num, PB.n, PB.vs, PB.a, PB.c, PB.l, List.length_nil] at HCP
  have HB0 := Lib.hid (balloc (.cells #[.string ⟨#[]⟩, .string ⟨#[]⟩, .bool false, .int .i64 0, .string ⟨#[]⟩, .slice none 0 0] 26) (.refl w.heap.size w))
  clear h hM
  go_enter Tryz.func35, Tryz.ntmps35
  go_wp2_with fail
  refine (HC.out _ (HM.out.grow HB0.out)).mono ?_
  rintro e w1 ⟨rfl, hb1⟩
  have HP1 := Lib.hid (((ParP.refl H.out).grow (balloc (.cells #[.string ⟨#[]⟩, .string ⟨#[]⟩, .bool false, .int .i64 0, .string ⟨#[]⟩, .slice none 0 0] 26) (.refl _ _))).grow hb1)
  have HX1 := Lib.hid ((PBox.new w ⟨#[]⟩ ⟨#[]⟩ false 0 ⟨#[]⟩ (.slice none 0 0) 26).grow hb1)
  have HZ1 : Hid (∀ j, w1.frozen? ⟨w.heap.size, j, none⟩ = false) := Lib.hid (fun j => by rw [hb1.frozen (p := ⟨w.heap.size, j, none⟩) (by simp)]; simp [go_sem])
  have HB1 := Lib.hid (bstep hb1 HB0.out)
  clear hb1
  go_wp2_with fail
  refine (HFD.out w1 (HM.out.grow HB1.out)).mono ?_
  rintro e w2 ⟨rfl, hb2⟩
  have HP2 := Lib.hid (HP1.out.grow hb2)
  have HX2 := Lib.hid (HX1.out.grow hb2)
  have HZ2 : Hid (∀ j, w2.frozen? ⟨w.heap.size, j, none⟩ = false) := Lib.hid (fun j => by rw [hb2.frozen (p := ⟨w.heap.size, j, none⟩) HX1.out.hz]; exact HZ1.out j)
  clear hb2 HP1 HX1 HZ1 HB1
  go_wp2_with fail
  refine (HE.out w2).mono ?_
  rintro e w3 ⟨rfl, hw3⟩
  rw [hw3]
  clear hw3
  go_wp2_with fail
  refine (HL.out w2).mono ?_
  rintro e w3 ⟨rfl, hw3⟩
  rw [hw3]
  clear hw3
  simp only [Bool.not_false]
  go_wp2_with fail
  refine (HCP.out w2 HP2.out.at').mono ?_
  rintro e w4 ⟨rfl, hp4⟩
  have HP4 := Lib.hid (HP2.out.trans hp4)
  have hwg : w.heap.size ≠ g := by omega
  have qx0 := (hp4.cell HX2.out.hz hwg 0).trans HX2.out.c0
  have qx1 := (hp4.cell HX2.out.hz hwg 1).trans HX2.out.c1
  have qx2 := (hp4.cell HX2.out.hz hwg 2).trans HX2.out.c2
  have qx3 := (hp4.cell HX2.out.hz hwg 3).trans HX2.out.c3
  have qx4 := (hp4.cell HX2.out.hz hwg 4).trans HX2.out.c4
  have qx5 := (hp4.cell HX2.out.hz hwg 5).trans HX2.out.c5
  have qz0 := (hp4.frozen HX2.out.hz hwg 0).trans (HZ2.out 0)
  have qz1 := (hp4.frozen HX2.out.hz hwg 1).trans (HZ2.out 1)
  have qz2 := (hp4.frozen HX2.out.hz hwg 2).trans (HZ2.out 2)
  have qz3 := (hp4.frozen HX2.out.hz hwg 3).trans (HZ2.out 3)
  have qz4 := (hp4.frozen HX2.out.hz hwg 4).trans (HZ2.out 4)
  have qz5 := (hp4.frozen HX2.out.hz hwg 5).trans (HZ2.out 5)
  have qzz : w.heap.size < w4.heap.size := Nat.lt_of_lt_of_le HX2.out.hz hp4.size
  clear hp4 HP2 HX2 HZ2
  go_wp2_with fail
  refine bodyPost_ret (v := .tuple #[(leafB ⟨#[108, 116]⟩ ⟨#[120]⟩ ⟨true, 5, []⟩).agg, .bool true]) (by simp [results, Tryz.results35, go_sem, leafB, PB.agg, PB.op, PB.s, PB.num, PB.n, PB.vs, PB.a, PB.c, PB.l, *]) rfl ⟨rfl, ?_⟩
  (repeat (first | with_reducible exact HP4.out | with_reducible apply ParP.drew | with_reducible refine ParP.setB ?_ (Nat.le_refl _) (by omega) _))
end Go.Proofs.YtmmdblpoecidaaaGreatDoor
namespace Go.Proofs.YtmmdblpoecidaaaGreatDoor
open Go.RowKit Tryst
set_option maxHeartbeats 2000000
set_option maxRecDepth 20000
/-- within a method of the parser's: its result's box, and the parser -/
structure RB (g : Nat) (s : ByteArray) (m : Nat) (w v : World) : Prop where
  p : ParP g s m 58 w v
  x : PBox v w.heap.size ⟨#[]⟩ ⟨#[]⟩ false 0 ⟨#[]⟩ (.slice none 0 0)
  z : ∀ j, v.frozen? ⟨w.heap.size, j, none⟩ = false
theorem RB.start {g m : Nat} {s : ByteArray} {w : World} (h : ParAt w g s m 58) : RB g s m w (w.alloc (.cells #[.string ⟨#[]⟩, .string ⟨#[]⟩, .bool false, .int .i64 0, .string ⟨#[]⟩, .slice none 0 0] 26)) :=
  ⟨(ParP.refl h).grow (balloc _ (.refl _ _)), PBox.new w ⟨#[]⟩ ⟨#[]⟩ false 0 ⟨#[]⟩ (.slice none 0 0) 26, fun j => by simp [go_sem]⟩
theorem RB.step {g m m' : Nat} {s s' : ByteArray} {w v v' : World} (h : RB g s m w v) (hg : g < w.heap.size) (hp : ParP g s' m' 58 v v') : RB g s' m' w v' := by
  have hne : w.heap.size ≠ g := by omega
  obtain ⟨h0, h1, h2, h3, h4, h5, h6⟩ := h.x
  exact ⟨h.p.trans hp, ⟨(hp.cell h6 hne 0).trans h0, (hp.cell h6 hne 1).trans h1, (hp.cell h6 hne 2).trans h2, (hp.cell h6 hne 3).trans h3, (hp.cell h6 hne 4).trans h4, (hp.cell h6 hne 5).trans h5, Nat.lt_of_lt_of_le h6 hp.size⟩, fun j => (hp.frozen h6 hne j).trans (h.z j)⟩
theorem RB.grow {g m : Nat} {s : ByteArray} {w v v' : World} (h : RB g s m w v) (hb : Below v.heap.size v v') : RB g s m w v' :=
  ⟨h.p.grow hb, h.x.grow hb, fun j => by rw [hb.frozen (p := ⟨w.heap.size, j, none⟩) h.x.hz]; exact h.z j⟩
theorem RB.set1 {g m : Nat} {s : ByteArray} {w v : World} (h : RB g s m w v) (hg : g < w.heap.size) (m' : Nat) : RB g s m' w (v.setCell ⟨g, 1, none⟩ (.int .i64 (m' : Int))) :=
  ⟨⟨h.p.os, h.p.tape, h.p.output, by simpa using h.p.size, fun k hk hkg => (Below.heap_setCell _ _ _ _ hkg).trans (h.p.block k hk hkg), h.p.at'.set1 m'⟩, h.x.away (by omega) _, fun j => by rw [frozen_setCell]; exact h.z j⟩
theorem RB.start1 {g m : Nat} {s : ByteArray} {w : World} (h : ParAt w g s m 58) (m' : Nat) : RB g s m' w ((w.setCell ⟨g, 1, none⟩ (.int .i64 (m' : Int))).alloc (.cells #[.string ⟨#[]⟩, .string ⟨#[]⟩, .bool false, .int .i64 0, .string ⟨#[]⟩, .slice none 0 0] 26)) := by
  have hz := h.cells.2.2.2.2
  have hp : ParP g s m' 58 w (w.setCell ⟨g, 1, none⟩ (.int .i64 (m' : Int))) :=
    ⟨rfl, rfl, rfl, by simp, fun k hk hkg => Below.heap_setCell _ _ _ _ hkg, h.set1 m'⟩
  have hx := PBox.new (w.setCell ⟨g, 1, none⟩ (.int .i64 (m' : Int))) ⟨#[]⟩ ⟨#[]⟩ false 0 ⟨#[]⟩ (.slice none 0 0) 26
  rw [show (w.setCell ⟨g, 1, none⟩ (.int .i64 (m' : Int))).heap.size = w.heap.size by simp] at hx
  exact ⟨hp.grow (balloc _ (.refl _ _)), hx, fun j => by simp [go_sem]⟩
theorem RB.facts {g m : Nat} {s : ByteArray} {w v : World} (h : RB g s m w v) : (v.cell? ⟨g, 0, none⟩ = some (.string s) ∧ v.cell? ⟨g, 1, none⟩ = some (.int .i64 m) ∧ v.frozen? ⟨g, 0, none⟩ = false ∧ v.frozen? ⟨g, 1, none⟩ = false ∧ g < v.heap.size) ∧ (v.cell? ⟨w.heap.size, 0, none⟩ = some (.string ⟨#[]⟩) ∧ v.cell? ⟨w.heap.size, 1, none⟩ = some (.string ⟨#[]⟩) ∧ v.cell? ⟨w.heap.size, 2, none⟩ = some (.bool false) ∧ v.cell? ⟨w.heap.size, 3, none⟩ = some (.int .i64 0) ∧ v.cell? ⟨w.heap.size, 4, none⟩ = some (.string ⟨#[]⟩) ∧ v.cell? ⟨w.heap.size, 5, none⟩ = some (.slice none 0 0)) ∧ (v.frozen? ⟨w.heap.size, 0, none⟩ = false ∧ v.frozen? ⟨w.heap.size, 1, none⟩ = false ∧ v.frozen? ⟨w.heap.size, 2, none⟩ = false ∧ v.frozen? ⟨w.heap.size, 3, none⟩ = false ∧ v.frozen? ⟨w.heap.size, 4, none⟩ = false ∧ v.frozen? ⟨w.heap.size, 5, none⟩ = false) ∧ w.heap.size < v.heap.size :=
  ⟨h.p.at'.cells, ⟨h.x.c0, h.x.c1, h.x.c2, h.x.c3, h.x.c4, h.x.c5⟩, ⟨h.z 0, h.z 1, h.z 2, h.z 3, h.z 4, h.z 5⟩, h.x.hz⟩
/-- a word that does not stand there -/
theorem skip_no (g m : Nat) (s word : ByteArray) (hs : skipP s word = (s, false)) (w : World) (h : ParAt w g s m 58) :
    Calls Tryz.prog 33 #[.pointer (some ⟨g, 0, none⟩), .string word] w fun e w' => e = .returned (.bool false) ∧ ParP g s m 58 w w' := by
  have h1 := skip_c g m s word w h
  rw [hs] at h1
  exact h1
theorem skip_yes (g m : Nat) (s s' word : ByteArray) (hs : skipP s word = (s', true)) (w : World) (h : ParAt w g s m 58) :
    Calls Tryz.prog 33 #[.pointer (some ⟨g, 0, none⟩), .string word] w fun e w' => e = .returned (.bool true) ∧ ParP g s' m 58 w w' := by
  have h1 := skip_c g m s word w h
  rw [hs] at h1
  exact h1
theorem pred_none_c (g m : Nat) (hm : m + 1 ≤ 40) (r : Int) (hr : 1 ≤ r) (w : World) (h : ParAt w g ⟨#[32, 120, 32, 61, 32, 53, 41]⟩ m 58) :
    Calls Tryz.prog 20 #[.pointer (some ⟨g, 0, none⟩), .int .i64 r] w fun e w' => e = .returned (.tuple #[(leafB ⟨#[]⟩ ⟨#[]⟩ ⟨false, 0, []⟩).agg, .bool false]) ∧ ParP g ⟨#[32, 120, 32, 61, 32, 53, 41]⟩ (m + 1) 58 w w' := by
  have hgw := h.cells.2.2.2.2
  have HR1 := Lib.hid (RB.start1 h (m + 1))
  obtain ⟨c0, c1, f0, f1, _⟩ := h.cells
  have y1 : ¬ r < 1 := by omega
  have y2 : ¬ (40 : Int) < (m : Int) + 1 := by omega
  clear h
  go_enter Tryz.func20, Tryz.ntmps20
  go_upto_region 2 with fail
  refine wp_genC (fun v => Hid (RB g ⟨#[32, 120, 32, 61, 32, 53, 41]⟩ (m + 1) w v)) ?_ ?_
  · show RB _ _ _ _ _
    first | exact HR1.out | (rw [show ((m + 1 : Nat) : Int) = (m : Int) + 1 by omega] at HR1; exact HR1.out)
  clear HR1 c0 c1 f0 f1
  rintro w1 HR1
  obtain ⟨⟨d0, d1, e0, e1, dz⟩, _⟩ := HR1.out.facts
  go_wp2_with fail
  refine (skip_no g (m + 1) _ _ (by rfl) _ HR1.out.p.at').mono ?_
  rintro e w2 ⟨rfl, hp2⟩
  have HR2 := Lib.hid (HR1.out.step hgw hp2)
  clear hp2 HR1 d0 d1 e0 e1 dz
  go_wp2_with fail
  refine (skip_no g (m + 1) _ _ (by rfl) _ HR2.out.p.at').mono ?_
  rintro e w3 ⟨rfl, hp3⟩
  have HR3 := Lib.hid (HR2.out.step hgw hp3)
  clear hp3 HR2
  go_wp2_with fail
  refine (skip_no g (m + 1) _ _ (by rfl) _ HR3.out.p.at').mono ?_
  rintro e w4 ⟨rfl, hp4⟩
  have HR4 := Lib.hid (HR3.out.step hgw hp4)
  clear hp4 HR3
  go_wp2_with fail
  refine (skip_no g (m + 1) _ _ (by rfl) _ HR4.out.p.at').mono ?_
  rintro e w5 ⟨rfl, hp5⟩
  have HR5 := Lib.hid (HR4.out.step hgw hp5)
  clear hp5 HR4
  obtain ⟨_, ⟨qx0, qx1, qx2, qx3, qx4, qx5⟩, ⟨qz0, qz1, qz2, qz3, qz4, qz5⟩, qzz⟩ := HR5.out.facts
  go_wp2_with fail
  refine bodyPost_ret (v := .tuple #[(leafB ⟨#[]⟩ ⟨#[]⟩ ⟨false, 0, []⟩).agg, .bool false]) (by simp [results, Tryz.results20, go_sem, leafB, PB.agg, PB.op, PB.s, PB.num, PB.n, PB.vs, PB.a, PB.c, PB.l, *]) rfl ⟨rfl, ?_⟩
  (repeat (first | with_reducible exact HR5.out.p | with_reducible apply ParP.drew | with_reducible refine ParP.setB ?_ (Nat.le_refl _) (by omega) _))
end Go.Proofs.YtmmdblpoecidaaaGreatDoor
namespace Go.Proofs.YtmmdblpoecidaaaGreatDoor
open Go.RowKit Tryst
set_option maxHeartbeats 2000000
set_option maxRecDepth 20000
theorem parMax {g m : Nat} {s : ByteArray} {T : TypeId} {a b : World} (h : ParP g s m T a b) (hM : MaxW a) (hg : 1 ≠ g) : MaxW b := by
  obtain ⟨⟨k, hk⟩, hz⟩ := hM
  exact ⟨⟨k, by rw [h.cell hz hg]; exact hk⟩, Nat.lt_of_lt_of_le hz h.size⟩
theorem parAlloc {g m : Nat} {s : ByteArray} {T : TypeId} {a b : World} {o : Obj} (h : ParP g s m T a b) : ParP g s m T a (b.alloc o) := h.grow (balloc _ (.refl _ _))
/-- a text that begins with a ( -/
theorem pred_paren_c (g m m' : Nat) (hm : m + 1 ≤ 40) (r : Int) (hr : 1 ≤ r) (hr9 : r ≤ 100) (s s' s2 : ByteArray) (x : PB) (ok : Bool) (hmx : 1 ≠ g)
    (hs1 : skipP s ⟨#[97, 108, 108]⟩ = (s, false)) (hs2 : skipP s ⟨#[116, 111, 112, 105, 99, 40]⟩ = (s, false)) (hs3 : skipP s ⟨#[104, 97, 115, 40]⟩ = (s, false)) (hs4 : skipP s ⟨#[40]⟩ = (s', true))
    (HI : ∀ W, MaxW W → ParAt W g s' (m + 1) 58 → Calls Tryz.prog 35 #[.pointer (some ⟨g, 0, none⟩), .int .i64 (r - 1)] W fun e W' => e = .returned (.tuple #[x.agg, .bool ok]) ∧ ParP g s2 m' 58 W W')
    (w : World) (hM : MaxW w) (h : ParAt w g s m 58) :
    Calls Tryz.prog 20 #[.pointer (some ⟨g, 0, none⟩), .int .i64 r] w fun e w' => e = .returned (.tuple #[x.agg, .bool ok]) ∧ ParP g s2 m' 58 w w' := by
  unfold PB.agg at HI
  have HI' := Lib.hid HI
  clear HI
  have HM := Lib.hid hM
  clear hM
  have hgw := h.cells.2.2.2.2
  have HR1 := Lib.hid (RB.start1 h (m + 1))
  obtain ⟨c0, c1, f0, f1, _⟩ := h.cells
  have y1 : ¬ r < 1 := by omega
  have y2 : ¬ (40 : Int) < (m : Int) + 1 := by omega
  clear h
  go_enter Tryz.func20, Tryz.ntmps20
  go_upto_region 2 with fail
  refine wp_genC (fun v => Hid (RB g s (m + 1) w v)) ?_ ?_
  · show RB _ _ _ _ _
    first | exact HR1.out | (rw [show ((m + 1 : Nat) : Int) = (m : Int) + 1 by omega] at HR1; exact HR1.out)
  clear HR1 c0 c1 f0 f1
  rintro w1 HR1
  obtain ⟨⟨d0, d1, e0, e1, dz⟩, _⟩ := HR1.out.facts
  go_wp2_with fail
  refine (skip_no g (m + 1) _ _ hs1 _ HR1.out.p.at').mono ?_
  rintro e w2 ⟨rfl, hp2⟩
  have HR2 := Lib.hid (HR1.out.step hgw hp2)
  clear hp2 HR1 d0 d1 e0 e1 dz
  go_wp2_with fail
  refine (skip_no g (m + 1) _ _ hs2 _ HR2.out.p.at').mono ?_
  rintro e w3 ⟨rfl, hp3⟩
  have HR3 := Lib.hid (HR2.out.step hgw hp3)
  clear hp3 HR2
  go_wp2_with fail
  refine (skip_no g (m + 1) _ _ hs3 _ HR3.out.p.at').mono ?_
  rintro e w4 ⟨rfl, hp4⟩
  have HR4 := Lib.hid (HR3.out.step hgw hp4)
  clear hp4 HR3
  go_wp2_with fail
  refine (skip_yes g (m + 1) _ _ _ hs4 _ HR4.out.p.at').mono ?_
  rintro e w5 ⟨rfl, hp5⟩
  have HR5 := Lib.hid (HR4.out.step hgw hp5)
  clear hp5 HR4
  go_wp2_with fail
  refine (HI'.out w5 (parMax HR5.out.p HM.out hmx) HR5.out.p.at').mono ?_
  rintro e w6 ⟨rfl, hp6⟩
  have HR6 := Lib.hid (HR5.out.step hgw hp6)
  clear hp6 HR5
  obtain ⟨_, ⟨qx0, qx1, qx2, qx3, qx4, qx5⟩, ⟨qz0, qz1, qz2, qz3, qz4, qz5⟩, qzz⟩ := HR6.out.facts
  go_wp2_with fail
  refine bodyPost_ret (v := .tuple #[x.agg, .bool ok]) (by simp [results, Tryz.results20, go_sem, PB.agg, *]) rfl ⟨rfl, ?_⟩
  (repeat (first | with_reducible exact HR6.out.p | with_reducible apply ParP.drew | with_reducible refine ParP.setB ?_ (Nat.le_refl _) (by omega) _))
theorem e_field : fieldB (⟨#[]⟩ : ByteArray).data.toList = false := by decide
theorem inner_none_c (g m : Nat) (hm : m + 1 ≤ 40) (r : Int) (hr : 1 ≤ r) (w : World) (hM : MaxW w) (h : ParAt w g ⟨#[32, 120, 32, 61, 32, 53, 41]⟩ m 58) :
    Calls Tryz.prog 35 #[.pointer (some ⟨g, 0, none⟩), .int .i64 r] w fun e w' => e = .returned (.tuple #[(leafB ⟨#[]⟩ ⟨#[]⟩ ⟨false, 0, []⟩).agg, .bool false]) ∧ ParP g ⟨#[32, 120, 32, 61, 32, 53, 41]⟩ (m + 1) 58 w w' := by
  have H := Lib.hid h
  have HM := Lib.hid hM
  obtain ⟨c0, c1, f0, f1, hz⟩ := h.cells
  have HC := Lib.hid (fun (W : World) (hM : MaxW W) => by
    obtain ⟨⟨mm, hm⟩, _⟩ := hM
    have h1 := Tryz.strings_Cut ⟨#[32, 120, 32, 61, 32, 53, 41]⟩ ⟨#[32]⟩ mm W (by decide) hm
    rw [show Lib.cut (⟨#[32, 120, 32, 61, 32, 53, 41]⟩ : ByteArray).data.toList (⟨#[32]⟩ : ByteArray).data.toList = ([], [120, 32, 61, 32, 53, 41], true) from by rfl] at h1
    have h2 : Calls Tryz.prog 55 #[.string ⟨#[32, 120, 32, 61, 32, 53, 41]⟩, .string ⟨#[32]⟩] W fun e w' => e = .returned (.tuple #[.string ⟨#[]⟩, .string ⟨#[120, 32, 61, 32, 53, 41]⟩, .bool true]) ∧ Below W.heap.size W w' := h1.mono fun e w' ⟨he, n, hw⟩ => ⟨he, by rw [hw]; exact below_drewN W n⟩
    exact h2)
  have HFD := Lib.hid (fun (W : World) (hM : MaxW W) => field_c ⟨#[]⟩ (by decide) W hM)
  rw [e_field] at HFD
  have HPN := Lib.hid (fun (W : World) (h : ParAt W g ⟨#[32, 120, 32, 61, 32, 53, 41]⟩ m 58) => pred_none_c g m hm r hr W h)
  unfold leafB PB.agg at HPN
  simp only [PB.op, PB.s, PB.num, PB.n, PB.vs, PB.a, PB.c, PB.l, List.length_nil] at HPN
  have HB0 := Lib.hid (balloc (.cells #[.string ⟨#[]⟩, .string ⟨#[]⟩, .bool false, .int .i64 0, .string ⟨#[]⟩, .slice none 0 0] 26) (.refl w.heap.size w))
  clear h hM
  go_enter Tryz.func35, Tryz.ntmps35
  go_wp2_with fail
  refine (HC.out _ (HM.out.grow HB0.out)).mono ?_
  rintro e w1 ⟨rfl, hb1⟩
  have HR1 := Lib.hid ((RB.start H.out).grow hb1)
  have HB1 := Lib.hid (bstep hb1 HB0.out)
  clear hb1
  go_wp2_with fail
  refine (HFD.out w1 (HM.out.grow HB1.out)).mono ?_
  rintro e w2 ⟨rfl, hb2⟩
  have HR2 := Lib.hid (HR1.out.grow hb2)
  clear hb2 HB1 HR1
  go_wp2_with fail
  refine (HPN.out w2 HR2.out.p.at').mono ?_
  rintro e w3 ⟨rfl, hp3⟩
  have HR3 := Lib.hid (HR2.out.step hz hp3)
  clear hp3 HR2
  obtain ⟨_, ⟨qx0, qx1, qx2, qx3, qx4, qx5⟩, ⟨qz0, qz1, qz2, qz3, qz4, qz5⟩, qzz⟩ := HR3.out.facts
  go_wp2_with fail
  refine bodyPost_ret (v := .tuple #[(leafB ⟨#[]⟩ ⟨#[]⟩ ⟨false, 0, []⟩).agg, .bool false]) (by simp [results, Tryz.results35, go_sem, leafB, PB.agg, PB.op, PB.s, PB.num, PB.n, PB.vs, PB.a, PB.c, PB.l, *]) rfl ⟨rfl, ?_⟩
  (repeat (first | with_reducible exact HR3.out.p | with_reducible apply ParP.drew | with_reducible apply parAlloc | with_reducible refine ParP.setB ?_ (Nat.le_refl _) (by omega) _))
theorem pred_eq_c (g : Nat) (hmx : 1 ≠ g) (w : World) (hM : MaxW w) (h : ParAt w g ⟨#[40, 120, 32, 61, 32, 53, 41]⟩ 0 58) :
    Calls Tryz.prog 20 #[.pointer (some ⟨g, 0, none⟩), .int .i64 8] w fun e w' => e = .returned (.tuple #[(leafB ⟨#[101, 113]⟩ ⟨#[120]⟩ ⟨true, 5, []⟩).agg, .bool true]) ∧ ParP g ⟨#[]⟩ 1 58 w w' :=
  pred_paren_c g 0 1 (by omega) 8 (by omega) (by omega) _ ⟨#[120, 32, 61, 32, 53, 41]⟩ ⟨#[]⟩ _ true hmx (by rfl) (by rfl) (by rfl) (by rfl) (fun W hM h => inner_eq_c g 1 _ W hM h) w hM h
theorem pred_lt_c (g : Nat) (hmx : 1 ≠ g) (w : World) (hM : MaxW w) (h : ParAt w g ⟨#[40, 120, 32, 60, 32, 53, 41]⟩ 0 58) :
    Calls Tryz.prog 20 #[.pointer (some ⟨g, 0, none⟩), .int .i64 8] w fun e w' => e = .returned (.tuple #[(leafB ⟨#[108, 116]⟩ ⟨#[120]⟩ ⟨true, 5, []⟩).agg, .bool true]) ∧ ParP g ⟨#[]⟩ 1 58 w w' :=
  pred_paren_c g 0 1 (by omega) 8 (by omega) (by omega) _ ⟨#[120, 32, 60, 32, 53, 41]⟩ ⟨#[]⟩ _ true hmx (by rfl) (by rfl) (by rfl) (by rfl) (fun W hM h => inner_lt_c g 1 _ W hM h) w hM h
theorem pred_no_c (g : Nat) (hmx : 1 ≠ g) (w : World) (hM : MaxW w) (h : ParAt w g ⟨#[40, 32, 120, 32, 61, 32, 53, 41]⟩ 0 58) :
    Calls Tryz.prog 20 #[.pointer (some ⟨g, 0, none⟩), .int .i64 8] w fun e w' => e = .returned (.tuple #[(leafB ⟨#[]⟩ ⟨#[]⟩ ⟨false, 0, []⟩).agg, .bool false]) ∧ ParP g ⟨#[32, 120, 32, 61, 32, 53, 41]⟩ 2 58 w w' :=
  pred_paren_c g 0 2 (by omega) 8 (by omega) (by omega) _ ⟨#[32, 120, 32, 61, 32, 53, 41]⟩ _ _ false hmx (by rfl) (by rfl) (by rfl) (by rfl) (fun W hM h => inner_none_c g 1 (by omega) _ (by omega) W hM h) w hM h
end Go.Proofs.YtmmdblpoecidaaaGreatDoor
namespace Go.Proofs.YtmmdblpoecidaaaGreatDoor
open Go.RowKit Tryst
set_option maxHeartbeats 2000000
set_option maxRecDepth 20000
theorem parse_yes_c (t : ByteArray) (k : Nat) (op s : ByteArray) (v : V) (hs : s.size ≤ 1000000000) (hv : v.s.length ≤ 1000000000) (hmay : mayP (leafB op s v).pr = true)
    (HI : ∀ g W, 1 ≠ g → MaxW W → ParAt W g t 0 58 → Calls Tryz.prog 20 #[.pointer (some ⟨g, 0, none⟩), .int .i64 8] W fun e W' => e = .returned (.tuple #[(leafB op s v).agg, .bool true]) ∧ ParP g ⟨#[]⟩ k 58 W W')
    (w : World) (hM : MaxW w) :
    Calls Tryz.prog 9 #[.string t] w fun e w' => e = .returned (.tuple #[(leafB op s v).agg, .int .i64 0]) ∧ Below w.heap.size w w' := by
  have HM := Lib.hid hM
  have HP := Lib.hid (fun (W : World) (hM : MaxW W) => may5_c (leafB op s v) W hM (leaf_mem op s v hs hv W))
  rw [hmay] at HP
  unfold leafB PB.agg at HI HP
  simp only [PB.op, PB.s, PB.num, PB.n, PB.vs, PB.a, PB.c, PB.l, List.length_nil] at HI HP
  have HI' := Lib.hid HI
  have HX := Lib.hid (PBox.new w ⟨#[]⟩ ⟨#[]⟩ false 0 ⟨#[]⟩ (.slice none 0 0) 26)
  have hmz := hM.2
  clear HI hM
  go_enter Tryz.func9, Tryz.ntmps9
  go_wp2_with fail
  refine (HI'.out (w.heap.size + 1) _ (by omega) (HM.out.grow (balloc _ (balloc _ (.refl _ _)))) ?_).mono ?_
  · show ((w.heap.push _).push _)[w.heap.size + 1]? = _
    rw [Array.getElem?_push, if_pos (by simp)]
    rfl
  rintro e w2 ⟨rfl, hp⟩
  have HB2 := Lib.hid (hp.below (balloc (w := w) _ (balloc _ (.refl _ _))) (by omega) (by simp <;> omega))
  have HX1 := HX.out.grow (balloc (.cells #[.string t, .int .i64 0] 58) (.refl _ _))
  have hne : w.heap.size ≠ w.heap.size + 1 := by omega
  have hlt := HX1.hz
  have qx0 := (hp.cell hlt hne 0).trans HX1.c0
  have qx1 := (hp.cell hlt hne 1).trans HX1.c1
  have qx2 := (hp.cell hlt hne 2).trans HX1.c2
  have qx3 := (hp.cell hlt hne 3).trans HX1.c3
  have qx4 := (hp.cell hlt hne 4).trans HX1.c4
  have qx5 := (hp.cell hlt hne 5).trans HX1.c5
  have qz : ∀ j, w2.frozen? ⟨w.heap.size, j, none⟩ = false := fun j => (hp.frozen hlt hne j).trans (by simp [go_sem])
  have qz0 := qz 0
  have qz1 := qz 1
  have qz2 := qz 2
  have qz3 := qz 3
  have qz4 := qz 4
  have qz5 := qz 5
  obtain ⟨d0, d1, e0, e1, dz⟩ := hp.at'.cells
  have qzz : w.heap.size < w2.heap.size := by omega
  clear hp HX HX1 hlt HI'
  have qzh := Lib.hid qz
  clear qz
  go_wp2_with fail
  have HY := Lib.hid (PBox.new w2 op s v.num v.n ⟨v.s.toArray⟩ (.slice none 0 0) 26)
  have HX2 := Lib.hid ((⟨qx0, qx1, qx2, qx3, qx4, qx5, qzz⟩ : PBox w2 w.heap.size ⟨#[]⟩ ⟨#[]⟩ false 0 ⟨#[]⟩ (.slice none 0 0)).grow (balloc (.cells #[.string op, .string s, .bool v.num, .int .i64 v.n, .string ⟨v.s.toArray⟩, .slice none 0 0] 26) (.refl _ _)))
  have HZ2 : Hid (∀ j, (w2.alloc (.cells #[.string op, .string s, .bool v.num, .int .i64 v.n, .string ⟨v.s.toArray⟩, .slice none 0 0] 26)).frozen? ⟨w.heap.size, j, none⟩ = false) := Lib.hid (fun j => by
    rw [(balloc (w := w2) (.cells #[.string op, .string s, .bool v.num, .int .i64 v.n, .string ⟨v.s.toArray⟩, .slice none 0 0] 26) (.refl _ _)).frozen (p := ⟨w.heap.size, j, none⟩) qzz]
    exact qzh.out j)
  refine (HP.out _ (HM.out.grow (balloc _ HB2.out))).mono ?_
  rintro e w3 ⟨rfl, hb3⟩
  have HY3 := HY.out.grow hb3
  have HX3 := HX2.out.grow hb3
  have HB3 := Lib.hid (bstep hb3 (balloc _ HB2.out))
  have HZ3 : ∀ j, w3.frozen? ⟨w.heap.size, j, none⟩ = false := fun j => by
    rw [hb3.frozen (p := ⟨w.heap.size, j, none⟩) HX2.out.hz]
    exact HZ2.out j
  clear qzh qx0 qx1 qx2 qx3 qx4 qx5 qz0 qz1 qz2 qz3 qz4 qz5 d0 d1 e0 e1 HX2 HY HZ2 hb3 HB2
  obtain ⟨qx0, qx1, qx2, qx3, qx4, qx5, qx6⟩ := HX3
  obtain ⟨px0, px1, px2, px3, px4, px5, px6⟩ := HY3
  have qz0 := HZ3 0
  have qz1 := HZ3 1
  have qz2 := HZ3 2
  have qz3 := HZ3 3
  have qz4 := HZ3 4
  have qz5 := HZ3 5
  clear HZ3
  go_wp2_with fail
  refine bodyPost_ret (v := .tuple #[(leafB op s v).agg, .int .i64 0]) (by simp [results, Tryz.results9, go_sem, leafB, PB.agg, PB.op, PB.s, PB.num, PB.n, PB.vs, PB.a, PB.c, PB.l, *]) rfl ⟨rfl, ?_⟩
  (repeat (first | with_reducible exact HB3.out | with_reducible apply bdrew | with_reducible apply balloc | with_reducible refine bset _ (Nat.le_refl _) ?_))
theorem parse_no_c (t s2 : ByteArray) (k : Nat)
    (HI : ∀ g W, 1 ≠ g → MaxW W → ParAt W g t 0 58 → Calls Tryz.prog 20 #[.pointer (some ⟨g, 0, none⟩), .int .i64 8] W fun e W' => e = .returned (.tuple #[(leafB ⟨#[]⟩ ⟨#[]⟩ ⟨false, 0, []⟩).agg, .bool false]) ∧ ParP g s2 k 58 W W')
    (w : World) (hM : MaxW w) :
    Calls Tryz.prog 9 #[.string t] w fun e w' => e = .returned (.tuple #[(leafB ⟨#[]⟩ ⟨#[]⟩ ⟨false, 0, []⟩).agg, .int .i64 2]) ∧ Below w.heap.size w w' := by
  have HM := Lib.hid hM
  unfold leafB PB.agg at HI
  simp only [PB.op, PB.s, PB.num, PB.n, PB.vs, PB.a, PB.c, PB.l, List.length_nil] at HI
  have HI' := Lib.hid HI
  have HX := Lib.hid (PBox.new w ⟨#[]⟩ ⟨#[]⟩ false 0 ⟨#[]⟩ (.slice none 0 0) 26)
  have hmz := hM.2
  clear HI hM
  go_enter Tryz.func9, Tryz.ntmps9
  go_wp2_with fail
  refine (HI'.out (w.heap.size + 1) _ (by omega) (HM.out.grow (balloc _ (balloc _ (.refl _ _)))) ?_).mono ?_
  · show ((w.heap.push _).push _)[w.heap.size + 1]? = _
    rw [Array.getElem?_push, if_pos (by simp)]
    rfl
  rintro e w2 ⟨rfl, hp⟩
  have HB2 := Lib.hid (hp.below (balloc (w := w) _ (balloc _ (.refl _ _))) (by omega) (by simp <;> omega))
  have HX1 := HX.out.grow (balloc (.cells #[.string t, .int .i64 0] 58) (.refl _ _))
  have hne : w.heap.size ≠ w.heap.size + 1 := by omega
  have hlt := HX1.hz
  have qx0 := (hp.cell hlt hne 0).trans HX1.c0
  have qx1 := (hp.cell hlt hne 1).trans HX1.c1
  have qx2 := (hp.cell hlt hne 2).trans HX1.c2
  have qx3 := (hp.cell hlt hne 3).trans HX1.c3
  have qx4 := (hp.cell hlt hne 4).trans HX1.c4
  have qx5 := (hp.cell hlt hne 5).trans HX1.c5
  have qz : ∀ j, w2.frozen? ⟨w.heap.size, j, none⟩ = false := fun j => (hp.frozen hlt hne j).trans (by simp [go_sem])
  have qz0 := qz 0
  have qz1 := qz 1
  have qz2 := qz 2
  have qz3 := qz 3
  have qz4 := qz 4
  have qz5 := qz 5
  obtain ⟨d0, d1, e0, e1, dz⟩ := hp.at'.cells
  have qzz : w.heap.size < w2.heap.size := by omega
  clear hp HX HX1 hlt HI'
  clear qz
  go_wp2_with fail
  refine bodyPost_ret (v := .tuple #[(leafB ⟨#[]⟩ ⟨#[]⟩ ⟨false, 0, []⟩).agg, .int .i64 2]) (by simp [results, Tryz.results9, go_sem, leafB, PB.agg, PB.op, PB.s, PB.num, PB.n, PB.vs, PB.a, PB.c, PB.l, *]) rfl ⟨rfl, ?_⟩
  (repeat (first | with_reducible exact HB2.out | with_reducible apply bdrew | with_reducible apply balloc | with_reducible refine bset _ (Nat.le_refl _) ?_))
theorem may_x (op : ByteArray) (h : op = ⟨#[101, 113]⟩ ∨ op = ⟨#[108, 116]⟩) : mayP (leafB op ⟨#[120]⟩ ⟨true, 5, []⟩).pr = true := by
  rcases h with rfl | rfl <;> rfl
theorem parse_eq_c (w : World) (hM : MaxW w) : Calls Tryz.prog 9 #[.string ⟨#[40, 120, 32, 61, 32, 53, 41]⟩] w fun e w' => e = .returned (.tuple #[(leafB ⟨#[101, 113]⟩ ⟨#[120]⟩ ⟨true, 5, []⟩).agg, .int .i64 0]) ∧ Below w.heap.size w w' :=
  parse_yes_c _ 1 _ _ _ (by decide) (by decide) (may_x _ (.inl rfl)) (fun g W hg hM h => pred_eq_c g hg W hM h) w hM
theorem parse_lt_c (w : World) (hM : MaxW w) : Calls Tryz.prog 9 #[.string ⟨#[40, 120, 32, 60, 32, 53, 41]⟩] w fun e w' => e = .returned (.tuple #[(leafB ⟨#[108, 116]⟩ ⟨#[120]⟩ ⟨true, 5, []⟩).agg, .int .i64 0]) ∧ Below w.heap.size w w' :=
  parse_yes_c _ 1 _ _ _ (by decide) (by decide) (may_x _ (.inr rfl)) (fun g W hg hM h => pred_lt_c g hg W hM h) w hM
theorem parse_bad_c (w : World) (hM : MaxW w) : Calls Tryz.prog 9 #[.string ⟨#[40, 32, 120, 32, 61, 32, 53, 41]⟩] w fun e w' => e = .returned (.tuple #[(leafB ⟨#[]⟩ ⟨#[]⟩ ⟨false, 0, []⟩).agg, .int .i64 2]) ∧ Below w.heap.size w w' :=
  parse_no_c _ _ 2 (fun g W hg hM h => pred_no_c g hg W hM h) w hM
end Go.Proofs.YtmmdblpoecidaaaGreatDoor
