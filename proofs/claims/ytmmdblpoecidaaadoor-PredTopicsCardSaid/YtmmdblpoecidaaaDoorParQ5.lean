/- pred and inner on the three examples -/
import Derived.Test.YtmmdblpoecidaaaDoorProg
import Derived.WalkKit
import Derived.WalkSpells
import Derived.WalkLawsBesides
import Derived.Lib.Hide
import Derived.Deep.RegionWith
import Derived.Deep.Cut
import Derived.IntWalk
import Derived.Test.YtmmdblpoecidaaaDoorParR5
set_option linter.unusedVariables false
set_option linter.unusedSimpArgs false
namespace Go.Proofs.YtmmdblpoecidaaaDoor
open Go.RowKit Tryst
set_option maxHeartbeats 2000000
set_option maxRecDepth 20000
theorem parMax {g m : Nat} {s : ByteArray} {T : TypeId} {a b : World} (h : ParP g s m T a b) (hM : MaxW a) (hg : 0 ≠ g) : MaxW b := by
  obtain ⟨⟨k, hk⟩, hz⟩ := hM
  exact ⟨⟨k, by rw [h.cell hz hg]; exact hk⟩, Nat.lt_of_lt_of_le hz h.size⟩
theorem parAlloc {g m : Nat} {s : ByteArray} {T : TypeId} {a b : World} {o : Obj} (h : ParP g s m T a b) : ParP g s m T a (b.alloc o) := h.grow (balloc _ (.refl _ _))
/-- a text that begins with a ( -/
theorem pred_paren_c (g m m' : Nat) (hm : m + 1 ≤ 40) (r : Int) (hr : 1 ≤ r) (hr9 : r ≤ 100) (s s' s2 : ByteArray) (x : PB) (ok : Bool) (hmx : 0 ≠ g)
    (hs1 : skipP s ⟨#[97, 108, 108]⟩ = (s, false)) (hs2 : skipP s ⟨#[116, 111, 112, 105, 99, 40]⟩ = (s, false)) (hs3 : skipP s ⟨#[104, 97, 115, 40]⟩ = (s, false)) (hs4 : skipP s ⟨#[40]⟩ = (s', true))
    (HI : ∀ W, MaxW W → ParAt W g s' (m + 1) 88 → Calls Tryd.prog 62 #[.pointer (some ⟨g, 0, none⟩), .int .i64 (r - 1)] W fun e W' => e = .returned (.tuple #[x.agg, .bool ok]) ∧ ParP g s2 m' 88 W W')
    (w : World) (hM : MaxW w) (h : ParAt w g s m 88) :
    Calls Tryd.prog 48 #[.pointer (some ⟨g, 0, none⟩), .int .i64 r] w fun e w' => e = .returned (.tuple #[x.agg, .bool ok]) ∧ ParP g s2 m' 88 w w' := by
  unfold PB.agg at HI
  have HI' := Lib.hid HI
  clear HI
  have HM := Lib.hid hM
  clear hM
  have hgw := h.cells.2.2.2.2
  have HR1 := Lib.hid (RB.start1 h (m + 1))
  obtain ⟨c0, c1, f0, f1, _⟩ := h.cells
  have y1 : ¬ r < 1 := by omega
  have y2 : ¬ (40 : Int) < (m : Int) + 1 := by omega
  clear h
  go_enter Tryd.func48, Tryd.ntmps48
  go_upto_region 2 with fail
  refine wp_genC (fun v => Hid (RB g s (m + 1) w v)) ?_ ?_
  · show RB _ _ _ _ _
    first | exact HR1.out | (rw [show ((m + 1 : Nat) : Int) = (m : Int) + 1 by omega] at HR1; exact HR1.out)
  clear HR1 c0 c1 f0 f1
  rintro w1 HR1
  obtain ⟨⟨d0, d1, e0, e1, dz⟩, _⟩ := HR1.out.facts
  go_wp2_with fail
  refine (skip_no g (m + 1) _ _ hs1 _ HR1.out.p.at').mono ?_
  rintro e w2 ⟨rfl, hp2⟩
  have HR2 := Lib.hid (HR1.out.step hgw hp2)
  clear hp2 HR1 d0 d1 e0 e1 dz
  go_wp2_with fail
  refine (skip_no g (m + 1) _ _ hs2 _ HR2.out.p.at').mono ?_
  rintro e w3 ⟨rfl, hp3⟩
  have HR3 := Lib.hid (HR2.out.step hgw hp3)
  clear hp3 HR2
  go_wp2_with fail
  refine (skip_no g (m + 1) _ _ hs3 _ HR3.out.p.at').mono ?_
  rintro e w4 ⟨rfl, hp4⟩
  have HR4 := Lib.hid (HR3.out.step hgw hp4)
  clear hp4 HR3
  go_wp2_with fail
  refine (skip_yes g (m + 1) _ _ _ hs4 _ HR4.out.p.at').mono ?_
  rintro e w5 ⟨rfl, hp5⟩
  have HR5 := Lib.hid (HR4.out.step hgw hp5)
  clear hp5 HR4
  go_wp2_with fail
  refine (HI'.out w5 (parMax HR5.out.p HM.out hmx) HR5.out.p.at').mono ?_
  rintro e w6 ⟨rfl, hp6⟩
  have HR6 := Lib.hid (HR5.out.step hgw hp6)
  clear hp6 HR5
  obtain ⟨_, ⟨qx0, qx1, qx2, qx3, qx4, qx5⟩, ⟨qz0, qz1, qz2, qz3, qz4, qz5⟩, qzz⟩ := HR6.out.facts
  go_wp2_with fail
  refine bodyPost_ret (v := .tuple #[x.agg, .bool ok]) (by simp [results, Tryd.results48, go_sem, PB.agg, *]) rfl ⟨rfl, ?_⟩
  (repeat (first | with_reducible exact HR6.out.p | with_reducible apply ParP.drew | with_reducible refine ParP.setB ?_ (Nat.le_refl _) (by omega) _))
theorem e_field : fieldB (⟨#[]⟩ : ByteArray).data.toList = false := by decide
theorem inner_none_c (g m : Nat) (hm : m + 1 ≤ 40) (r : Int) (hr : 1 ≤ r) (w : World) (hM : MaxW w) (h : ParAt w g ⟨#[32, 120, 32, 61, 32, 53, 41]⟩ m 88) :
    Calls Tryd.prog 62 #[.pointer (some ⟨g, 0, none⟩), .int .i64 r] w fun e w' => e = .returned (.tuple #[(leafB ⟨#[]⟩ ⟨#[]⟩ ⟨false, 0, []⟩).agg, .bool false]) ∧ ParP g ⟨#[32, 120, 32, 61, 32, 53, 41]⟩ (m + 1) 88 w w' := by
  have H := Lib.hid h
  have HM := Lib.hid hM
  obtain ⟨c0, c1, f0, f1, hz⟩ := h.cells
  have HC := Lib.hid (fun (W : World) (hM : MaxW W) => by
    obtain ⟨⟨mm, hm⟩, _⟩ := hM
    have h1 := Tryd.strings_Cut ⟨#[32, 120, 32, 61, 32, 53, 41]⟩ ⟨#[32]⟩ mm W (by decide) hm
    rw [show Lib.cut (⟨#[32, 120, 32, 61, 32, 53, 41]⟩ : ByteArray).data.toList (⟨#[32]⟩ : ByteArray).data.toList = ([], [120, 32, 61, 32, 53, 41], true) from by rfl] at h1
    have h2 : Calls Tryd.prog 76 #[.string ⟨#[32, 120, 32, 61, 32, 53, 41]⟩, .string ⟨#[32]⟩] W fun e w' => e = .returned (.tuple #[.string ⟨#[]⟩, .string ⟨#[120, 32, 61, 32, 53, 41]⟩, .bool true]) ∧ Below W.heap.size W w' := h1.mono fun e w' ⟨he, n, hw⟩ => ⟨he, by rw [hw]; exact below_drewN W n⟩
    exact h2)
  have HFD := Lib.hid (fun (W : World) (hM : MaxW W) => field_c ⟨#[]⟩ (by decide) W hM)
  rw [e_field] at HFD
  have HPN := Lib.hid (fun (W : World) (h : ParAt W g ⟨#[32, 120, 32, 61, 32, 53, 41]⟩ m 88) => pred_none_c g m hm r hr W h)
  unfold leafB PB.agg at HPN
  simp only [PB.op, PB.s, PB.num, PB.n, PB.vs, PB.a, PB.c, PB.l, List.length_nil] at HPN
  have HB0 := Lib.hid (balloc (.cells #[.string ⟨#[]⟩, .string ⟨#[]⟩, .bool false, .int .i64 0, .string ⟨#[]⟩, .slice none 0 0] 26) (.refl w.heap.size w))
  clear h hM
  go_enter Tryd.func62, Tryd.ntmps62
  go_wp2_with fail
  refine (HC.out _ (HM.out.grow HB0.out)).mono ?_
  rintro e w1 ⟨rfl, hb1⟩
  have HR1 := Lib.hid ((RB.start H.out).grow hb1)
  have HB1 := Lib.hid (bstep hb1 HB0.out)
  clear hb1
  go_wp2_with fail
  refine (HFD.out w1 (HM.out.grow HB1.out)).mono ?_
  rintro e w2 ⟨rfl, hb2⟩
  have HR2 := Lib.hid (HR1.out.grow hb2)
  clear hb2 HB1 HR1
  go_wp2_with fail
  refine (HPN.out w2 HR2.out.p.at').mono ?_
  rintro e w3 ⟨rfl, hp3⟩
  have HR3 := Lib.hid (HR2.out.step hz hp3)
  clear hp3 HR2
  obtain ⟨_, ⟨qx0, qx1, qx2, qx3, qx4, qx5⟩, ⟨qz0, qz1, qz2, qz3, qz4, qz5⟩, qzz⟩ := HR3.out.facts
  go_wp2_with fail
  refine bodyPost_ret (v := .tuple #[(leafB ⟨#[]⟩ ⟨#[]⟩ ⟨false, 0, []⟩).agg, .bool false]) (by simp [results, Tryd.results62, go_sem, leafB, PB.agg, PB.op, PB.s, PB.num, PB.n, PB.vs, PB.a, PB.c, PB.l, *]) rfl ⟨rfl, ?_⟩
  (repeat (first | with_reducible exact HR3.out.p | with_reducible apply ParP.drew | with_reducible apply parAlloc | with_reducible refine ParP.setB ?_ (Nat.le_refl _) (by omega) _))
theorem pred_eq_c (g : Nat) (hmx : 0 ≠ g) (w : World) (hM : MaxW w) (h : ParAt w g ⟨#[40, 120, 32, 61, 32, 53, 41]⟩ 0 88) :
    Calls Tryd.prog 48 #[.pointer (some ⟨g, 0, none⟩), .int .i64 8] w fun e w' => e = .returned (.tuple #[(leafB ⟨#[101, 113]⟩ ⟨#[120]⟩ ⟨true, 5, []⟩).agg, .bool true]) ∧ ParP g ⟨#[]⟩ 1 88 w w' :=
  pred_paren_c g 0 1 (by omega) 8 (by omega) (by omega) _ ⟨#[120, 32, 61, 32, 53, 41]⟩ ⟨#[]⟩ _ true hmx (by rfl) (by rfl) (by rfl) (by rfl) (fun W hM h => inner_eq_c g 1 _ W hM h) w hM h
theorem pred_lt_c (g : Nat) (hmx : 0 ≠ g) (w : World) (hM : MaxW w) (h : ParAt w g ⟨#[40, 120, 32, 60, 32, 53, 41]⟩ 0 88) :
    Calls Tryd.prog 48 #[.pointer (some ⟨g, 0, none⟩), .int .i64 8] w fun e w' => e = .returned (.tuple #[(leafB ⟨#[108, 116]⟩ ⟨#[120]⟩ ⟨true, 5, []⟩).agg, .bool true]) ∧ ParP g ⟨#[]⟩ 1 88 w w' :=
  pred_paren_c g 0 1 (by omega) 8 (by omega) (by omega) _ ⟨#[120, 32, 60, 32, 53, 41]⟩ ⟨#[]⟩ _ true hmx (by rfl) (by rfl) (by rfl) (by rfl) (fun W hM h => inner_lt_c g 1 _ W hM h) w hM h
theorem pred_no_c (g : Nat) (hmx : 0 ≠ g) (w : World) (hM : MaxW w) (h : ParAt w g ⟨#[40, 32, 120, 32, 61, 32, 53, 41]⟩ 0 88) :
    Calls Tryd.prog 48 #[.pointer (some ⟨g, 0, none⟩), .int .i64 8] w fun e w' => e = .returned (.tuple #[(leafB ⟨#[]⟩ ⟨#[]⟩ ⟨false, 0, []⟩).agg, .bool false]) ∧ ParP g ⟨#[32, 120, 32, 61, 32, 53, 41]⟩ 2 88 w w' :=
  pred_paren_c g 0 2 (by omega) 8 (by omega) (by omega) _ ⟨#[32, 120, 32, 61, 32, 53, 41]⟩ _ _ false hmx (by rfl) (by rfl) (by rfl) (by rfl) (fun W hM h => inner_none_c g 1 (by omega) _ (by omega) W hM h) w hM h
end Go.Proofs.YtmmdblpoecidaaaDoor
