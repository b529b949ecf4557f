/- The parser on the texts of the examples: inner. -/
import Derived.Test.YtmmdblpoecidaaaDoorProg
import Derived.WalkKit
import Derived.WalkSpells
import Derived.WalkLawsBesides
import Derived.Lib.Hide
import Derived.Deep.RegionWith
import Derived.Deep.Cut
import Derived.IntWalk
import Derived.Test.YtmmdblpoecidaaaDoorPar5
set_option linter.unusedVariables false
set_option linter.unusedSimpArgs false
namespace Go.Proofs.YtmmdblpoecidaaaDoor
open Go.RowKit Tryst
set_option maxHeartbeats 2000000
set_option maxRecDepth 20000
theorem five_read : readV (⟨#[53, 41]⟩ : ByteArray).data.toList = (⟨true, 5, []⟩, 1) := by rfl
theorem x_field : fieldB (⟨#[120]⟩ : ByteArray).data.toList = true := by rfl
theorem inner_eq_c (g m : Nat) (r : Int) (w : World) (hM : MaxW w) (h : ParAt w g ⟨#[120, 32, 61, 32, 53, 41]⟩ m 88) :
    Calls Tryd.prog 62 #[.pointer (some ⟨g, 0, none⟩), .int .i64 r] w fun e w' => e = .returned (.tuple #[(leafB ⟨#[101, 113]⟩ ⟨#[120]⟩ ⟨true, 5, []⟩).agg, .bool true]) ∧ ParP g ⟨#[]⟩ m 88 w w' := by
  have H := Lib.hid h
  have HM := Lib.hid hM
  obtain ⟨c0, c1, f0, f1, hz⟩ := h.cells
  have HC := Lib.hid (fun (W : World) (hM : MaxW W) => by
    obtain ⟨⟨mm, hm⟩, _⟩ := hM
    have h1 := Tryd.strings_Cut ⟨#[120, 32, 61, 32, 53, 41]⟩ ⟨#[32]⟩ mm W (by decide) hm
    rw [show Lib.cut (⟨#[120, 32, 61, 32, 53, 41]⟩ : ByteArray).data.toList (⟨#[32]⟩ : ByteArray).data.toList = ([120], [61, 32, 53, 41], true) from by rfl] at h1
    have h2 : Calls Tryd.prog 76 #[.string ⟨#[120, 32, 61, 32, 53, 41]⟩, .string ⟨#[32]⟩] W fun e w' => e = .returned (.tuple #[.string ⟨#[120]⟩, .string ⟨#[61, 32, 53, 41]⟩, .bool true]) ∧ Below W.heap.size W w' := h1.mono fun e w' ⟨he, n, hw⟩ => ⟨he, by rw [hw]; exact below_drewN W n⟩
    exact h2)
  have HFD := Lib.hid (fun (W : World) (hM : MaxW W) => field_c ⟨#[120]⟩ (by decide) W hM)
  rw [x_field] at HFD
  have HE := Lib.hid (fun (W : World) => Tryd.strings_HasPrefix ⟨#[61, 32, 53, 41]⟩ ⟨#[61, 32]⟩ W)
  rw [show Lib.hasPrefix (⟨#[61, 32, 53, 41]⟩ : ByteArray).data.toList (⟨#[61, 32]⟩ : ByteArray).data.toList = true from by rfl] at HE
  have HL := Lib.hid (fun (W : World) => Tryd.strings_HasPrefix ⟨#[61, 32, 53, 41]⟩ ⟨#[60, 32]⟩ W)
  rw [show Lib.hasPrefix (⟨#[61, 32, 53, 41]⟩ : ByteArray).data.toList (⟨#[60, 32]⟩ : ByteArray).data.toList = !true from by rfl] at HL
  have HCP := Lib.hid (fun (W : World) (h : ParAt W g ⟨#[120, 32, 61, 32, 53, 41]⟩ m 88) => compared_c g m ⟨#[120, 32, 61, 32, 53, 41]⟩ ⟨#[101, 113]⟩ ⟨#[120]⟩ ⟨#[53, 41]⟩ ⟨true, 5, []⟩ 1 (by decide) (by decide) (by decide) five_read W h)
  rw [show skipP ((⟨#[53, 41]⟩ : ByteArray).extract 1 (⟨#[53, 41]⟩ : ByteArray).size) ⟨#[41]⟩ = (⟨#[]⟩, true) from by rfl] at HCP
  unfold leafB PB.agg at HCP
  simp only [PB.op, PB.s, PB.num, PB.n, PB.vs, PB.a, PB.c, PB.l, List.length_nil] at HCP
  have HB0 := Lib.hid (balloc (.cells #[.string ⟨#[]⟩, .string ⟨#[]⟩, .bool false, .int .i64 0, .string ⟨#[]⟩, .slice none 0 0] 26) (.refl w.heap.size w))
  clear h hM
  go_enter Tryd.func62, Tryd.ntmps62
  go_wp2_with fail
  refine (HC.out _ (HM.out.grow HB0.out)).mono ?_
  rintro e w1 ⟨rfl, hb1⟩
  have HP1 := Lib.hid (((ParP.refl H.out).grow (balloc (.cells #[.string ⟨#[]⟩, .string ⟨#[]⟩, .bool false, .int .i64 0, .string ⟨#[]⟩, .slice none 0 0] 26) (.refl _ _))).grow hb1)
  have HX1 := Lib.hid ((PBox.new w ⟨#[]⟩ ⟨#[]⟩ false 0 ⟨#[]⟩ (.slice none 0 0) 26).grow hb1)
  have HZ1 : Hid (∀ j, w1.frozen? ⟨w.heap.size, j, none⟩ = false) := Lib.hid (fun j => by rw [hb1.frozen (p := ⟨w.heap.size, j, none⟩) (by simp)]; simp [go_sem])
  have HB1 := Lib.hid (bstep hb1 HB0.out)
  clear hb1
  go_wp2_with fail
  refine (HFD.out w1 (HM.out.grow HB1.out)).mono ?_
  rintro e w2 ⟨rfl, hb2⟩
  have HP2 := Lib.hid (HP1.out.grow hb2)
  have HX2 := Lib.hid (HX1.out.grow hb2)
  have HZ2 : Hid (∀ j, w2.frozen? ⟨w.heap.size, j, none⟩ = false) := Lib.hid (fun j => by rw [hb2.frozen (p := ⟨w.heap.size, j, none⟩) HX1.out.hz]; exact HZ1.out j)
  clear hb2 HP1 HX1 HZ1 HB1
  go_wp2_with fail
  refine (HE.out w2).mono ?_
  rintro e w3 ⟨rfl, hw3⟩
  rw [hw3]
  clear hw3
  go_wp2_with fail
  refine (HCP.out w2 HP2.out.at').mono ?_
  rintro e w4 ⟨rfl, hp4⟩
  have HP4 := Lib.hid (HP2.out.trans hp4)
  have hwg : w.heap.size ≠ g := by omega
  have qx0 := (hp4.cell HX2.out.hz hwg 0).trans HX2.out.c0
  have qx1 := (hp4.cell HX2.out.hz hwg 1).trans HX2.out.c1
  have qx2 := (hp4.cell HX2.out.hz hwg 2).trans HX2.out.c2
  have qx3 := (hp4.cell HX2.out.hz hwg 3).trans HX2.out.c3
  have qx4 := (hp4.cell HX2.out.hz hwg 4).trans HX2.out.c4
  have qx5 := (hp4.cell HX2.out.hz hwg 5).trans HX2.out.c5
  have qz0 := (hp4.frozen HX2.out.hz hwg 0).trans (HZ2.out 0)
  have qz1 := (hp4.frozen HX2.out.hz hwg 1).trans (HZ2.out 1)
  have qz2 := (hp4.frozen HX2.out.hz hwg 2).trans (HZ2.out 2)
  have qz3 := (hp4.frozen HX2.out.hz hwg 3).trans (HZ2.out 3)
  have qz4 := (hp4.frozen HX2.out.hz hwg 4).trans (HZ2.out 4)
  have qz5 := (hp4.frozen HX2.out.hz hwg 5).trans (HZ2.out 5)
  have qzz : w.heap.size < w4.heap.size := Nat.lt_of_lt_of_le HX2.out.hz hp4.size
  clear hp4 HP2 HX2 HZ2
  go_wp2_with fail
  refine bodyPost_ret (v := .tuple #[(leafB ⟨#[101, 113]⟩ ⟨#[120]⟩ ⟨true, 5, []⟩).agg, .bool true]) (by simp [results, Tryd.results62, go_sem, leafB, PB.agg, PB.op, PB.s, PB.num, PB.n, PB.vs, PB.a, PB.c, PB.l, *]) rfl ⟨rfl, ?_⟩
  (repeat (first | with_reducible exact HP4.out | with_reducible apply ParP.drew | with_reducible refine ParP.setB ?_ (Nat.le_refl _) (by omega) _))
theorem inner_lt_c (g m : Nat) (r : Int) (w : World) (hM : MaxW w) (h : ParAt w g ⟨#[120, 32, 60, 32, 53, 41]⟩ m 88) :
    Calls Tryd.prog 62 #[.pointer (some ⟨g, 0, none⟩), .int .i64 r] w fun e w' => e = .returned (.tuple #[(leafB ⟨#[108, 116]⟩ ⟨#[120]⟩ ⟨true, 5, []⟩).agg, .bool true]) ∧ ParP g ⟨#[]⟩ m 88 w w' := by
  have H := Lib.hid h
  have HM := Lib.hid hM
  obtain ⟨c0, c1, f0, f1, hz⟩ := h.cells
  have HC := Lib.hid (fun (W : World) (hM : MaxW W) => by
    obtain ⟨⟨mm, hm⟩, _⟩ := hM
    have h1 := Tryd.strings_Cut ⟨#[120, 32, 60, 32, 53, 41]⟩ ⟨#[32]⟩ mm W (by decide) hm
    rw [show Lib.cut (⟨#[120, 32, 60, 32, 53, 41]⟩ : ByteArray).data.toList (⟨#[32]⟩ : ByteArray).data.toList = ([120], [60, 32, 53, 41], true) from by rfl] at h1
    have h2 : Calls Tryd.prog 76 #[.string ⟨#[120, 32, 60, 32, 53, 41]⟩, .string ⟨#[32]⟩] W fun e w' => e = .returned (.tuple #[.string ⟨#[120]⟩, .string ⟨#[60, 32, 53, 41]⟩, .bool true]) ∧ Below W.heap.size W w' := h1.mono fun e w' ⟨he, n, hw⟩ => ⟨he, by rw [hw]; exact below_drewN W n⟩
    exact h2)
  have HFD := Lib.hid (fun (W : World) (hM : MaxW W) => field_c ⟨#[120]⟩ (by decide) W hM)
  rw [x_field] at HFD
  have HE := Lib.hid (fun (W : World) => Tryd.strings_HasPrefix ⟨#[60, 32, 53, 41]⟩ ⟨#[61, 32]⟩ W)
  rw [show Lib.hasPrefix (⟨#[60, 32, 53, 41]⟩ : ByteArray).data.toList (⟨#[61, 32]⟩ : ByteArray).data.toList = false from by rfl] at HE
  have HL := Lib.hid (fun (W : World) => Tryd.strings_HasPrefix ⟨#[60, 32, 53, 41]⟩ ⟨#[60, 32]⟩ W)
  rw [show Lib.hasPrefix (⟨#[60, 32, 53, 41]⟩ : ByteArray).data.toList (⟨#[60, 32]⟩ : ByteArray).data.toList = !false from by rfl] at HL
  have HCP := Lib.hid (fun (W : World) (h : ParAt W g ⟨#[120, 32, 60, 32, 53, 41]⟩ m 88) => compared_c g m ⟨#[120, 32, 60, 32, 53, 41]⟩ ⟨#[108, 116]⟩ ⟨#[120]⟩ ⟨#[53, 41]⟩ ⟨true, 5, []⟩ 1 (by decide) (by decide) (by decide) five_read W h)
  rw [show skipP ((⟨#[53, 41]⟩ : ByteArray).extract 1 (⟨#[53, 41]⟩ : ByteArray).size) ⟨#[41]⟩ = (⟨#[]⟩, true) from by rfl] at HCP
  unfold leafB PB.agg at HCP
  simp only [PB.op, PB.s, PB.num, PB.n, PB.vs, PB.a, PB.c, PB.l, List.length_nil] at HCP
  have HB0 := Lib.hid (balloc (.cells #[.string ⟨#[]⟩, .string ⟨#[]⟩, .bool false, .int .i64 0, .string ⟨#[]⟩, .slice none 0 0] 26) (.refl w.heap.size w))
  clear h hM
  go_enter Tryd.func62, Tryd.ntmps62
  go_wp2_with fail
  refine (HC.out _ (HM.out.grow HB0.out)).mono ?_
  rintro e w1 ⟨rfl, hb1⟩
  have HP1 := Lib.hid (((ParP.refl H.out).grow (balloc (.cells #[.string ⟨#[]⟩, .string ⟨#[]⟩, .bool false, .int .i64 0, .string ⟨#[]⟩, .slice none 0 0] 26) (.refl _ _))).grow hb1)
  have HX1 := Lib.hid ((PBox.new w ⟨#[]⟩ ⟨#[]⟩ false 0 ⟨#[]⟩ (.slice none 0 0) 26).grow hb1)
  have HZ1 : Hid (∀ j, w1.frozen? ⟨w.heap.size, j, none⟩ = false) := Lib.hid (fun j => by rw [hb1.frozen (p := ⟨w.heap.size, j, none⟩) (by simp)]; simp [go_sem])
  have HB1 := Lib.hid (bstep hb1 HB0.out)
  clear hb1
  go_wp2_with fail
  refine (HFD.out w1 (HM.out.grow HB1.out)).mono ?_
  rintro e w2 ⟨rfl, hb2⟩
  have HP2 := Lib.hid (HP1.out.grow hb2)
  have HX2 := Lib.hid (HX1.out.grow hb2)
  have HZ2 : Hid (∀ j, w2.frozen? ⟨w.heap.size, j, none⟩ = false) := Lib.hid (fun j => by rw [hb2.frozen (p := ⟨w.heap.size, j, none⟩) HX1.out.hz]; exact HZ1.out j)
  clear hb2 HP1 HX1 HZ1 HB1
  go_wp2_with fail
  refine (HE.out w2).mono ?_
  rintro e w3 ⟨rfl, hw3⟩
  rw [hw3]
  clear hw3
  go_wp2_with fail
  refine (HL.out w2).mono ?_
  rintro e w3 ⟨rfl, hw3⟩
  rw [hw3]
  clear hw3
  simp only [Bool.not_false]
  go_wp2_with fail
  refine (HCP.out w2 HP2.out.at').mono ?_
  rintro e w4 ⟨rfl, hp4⟩
  have HP4 := Lib.hid (HP2.out.trans hp4)
  have hwg : w.heap.size ≠ g := by omega
  have qx0 := (hp4.cell HX2.out.hz hwg 0).trans HX2.out.c0
  have qx1 := (hp4.cell HX2.out.hz hwg 1).trans HX2.out.c1
  have qx2 := (hp4.cell HX2.out.hz hwg 2).trans HX2.out.c2
  have qx3 := (hp4.cell HX2.out.hz hwg 3).trans HX2.out.c3
  have qx4 := (hp4.cell HX2.out.hz hwg 4).trans HX2.out.c4
  have qx5 := (hp4.cell HX2.out.hz hwg 5).trans HX2.out.c5
  have qz0 := (hp4.frozen HX2.out.hz hwg 0).trans (HZ2.out 0)
  have qz1 := (hp4.frozen HX2.out.hz hwg 1).trans (HZ2.out 1)
  have qz2 := (hp4.frozen HX2.out.hz hwg 2).trans (HZ2.out 2)
  have qz3 := (hp4.frozen HX2.out.hz hwg 3).trans (HZ2.out 3)
  have qz4 := (hp4.frozen HX2.out.hz hwg 4).trans (HZ2.out 4)
  have qz5 := (hp4.frozen HX2.out.hz hwg 5).trans (HZ2.out 5)
  have qzz : w.heap.size < w4.heap.size := Nat.lt_of_lt_of_le HX2.out.hz hp4.size
  clear hp4 HP2 HX2 HZ2
  go_wp2_with fail
  refine bodyPost_ret (v := .tuple #[(leafB ⟨#[108, 116]⟩ ⟨#[120]⟩ ⟨true, 5, []⟩).agg, .bool true]) (by simp [results, Tryd.results62, go_sem, leafB, PB.agg, PB.op, PB.s, PB.num, PB.n, PB.vs, PB.a, PB.c, PB.l, *]) rfl ⟨rfl, ?_⟩
  (repeat (first | with_reducible exact HP4.out | with_reducible apply ParP.drew | with_reducible refine ParP.setB ?_ (Nat.le_refl _) (by omega) _))
end Go.Proofs.YtmmdblpoecidaaaDoor
