/- pred.Parse on the three examples -/
import Derived.Test.YtmmdblpoecidaaaDoorProg
import Derived.WalkKit
import Derived.WalkSpells
import Derived.WalkLawsBesides
import Derived.Lib.Hide
import Derived.Deep.RegionWith
import Derived.Deep.Cut
import Derived.IntWalk
import Derived.Test.YtmmdblpoecidaaaDoorParQ5
set_option linter.unusedVariables false
set_option linter.unusedSimpArgs false
namespace Go.Proofs.YtmmdblpoecidaaaDoor
open Go.RowKit Tryst
set_option maxHeartbeats 2000000
set_option maxRecDepth 20000
theorem parse_yes_c (t : ByteArray) (k : Nat) (op s : ByteArray) (v : V) (hs : s.size ≤ 1000000000) (hv : v.s.length ≤ 1000000000) (hmay : mayP (leafB op s v).pr = true)
    (HI : ∀ g W, 0 ≠ g → MaxW W → ParAt W g t 0 88 → Calls Tryd.prog 48 #[.pointer (some ⟨g, 0, none⟩), .int .i64 8] W fun e W' => e = .returned (.tuple #[(leafB op s v).agg, .bool true]) ∧ ParP g ⟨#[]⟩ k 88 W W')
    (w : World) (hM : MaxW w) :
    Calls Tryd.prog 29 #[.string t] w fun e w' => e = .returned (.tuple #[(leafB op s v).agg, .int .i64 0]) ∧ Below w.heap.size w w' := by
  have HM := Lib.hid hM
  have HP := Lib.hid (fun (W : World) (hM : MaxW W) => may5_c (leafB op s v) W hM (leaf_mem op s v hs hv W))
  rw [hmay] at HP
  unfold leafB PB.agg at HI HP
  simp only [PB.op, PB.s, PB.num, PB.n, PB.vs, PB.a, PB.c, PB.l, List.length_nil] at HI HP
  have HI' := Lib.hid HI
  have HX := Lib.hid (PBox.new w ⟨#[]⟩ ⟨#[]⟩ false 0 ⟨#[]⟩ (.slice none 0 0) 26)
  have hmz := hM.2
  clear HI hM
  go_enter Tryd.func29, Tryd.ntmps29
  go_wp2_with fail
  refine (HI'.out (w.heap.size + 1) _ (by omega) (HM.out.grow (balloc _ (balloc _ (.refl _ _)))) ?_).mono ?_
  · show ((w.heap.push _).push _)[w.heap.size + 1]? = _
    rw [Array.getElem?_push, if_pos (by simp)]
    rfl
  rintro e w2 ⟨rfl, hp⟩
  have HB2 := Lib.hid (hp.below (balloc (w := w) _ (balloc _ (.refl _ _))) (by omega) (by simp <;> omega))
  have HX1 := HX.out.grow (balloc (.cells #[.string t, .int .i64 0] 88) (.refl _ _))
  have hne : w.heap.size ≠ w.heap.size + 1 := by omega
  have hlt := HX1.hz
  have qx0 := (hp.cell hlt hne 0).trans HX1.c0
  have qx1 := (hp.cell hlt hne 1).trans HX1.c1
  have qx2 := (hp.cell hlt hne 2).trans HX1.c2
  have qx3 := (hp.cell hlt hne 3).trans HX1.c3
  have qx4 := (hp.cell hlt hne 4).trans HX1.c4
  have qx5 := (hp.cell hlt hne 5).trans HX1.c5
  have qz : ∀ j, w2.frozen? ⟨w.heap.size, j, none⟩ = false := fun j => (hp.frozen hlt hne j).trans (by simp [go_sem])
  have qz0 := qz 0
  have qz1 := qz 1
  have qz2 := qz 2
  have qz3 := qz 3
  have qz4 := qz 4
  have qz5 := qz 5
  obtain ⟨d0, d1, e0, e1, dz⟩ := hp.at'.cells
  have qzz : w.heap.size < w2.heap.size := by omega
  clear hp HX HX1 hlt HI'
  have qzh := Lib.hid qz
  clear qz
  go_wp2_with fail
  have HY := Lib.hid (PBox.new w2 op s v.num v.n ⟨v.s.toArray⟩ (.slice none 0 0) 26)
  have HX2 := Lib.hid ((⟨qx0, qx1, qx2, qx3, qx4, qx5, qzz⟩ : PBox w2 w.heap.size ⟨#[]⟩ ⟨#[]⟩ false 0 ⟨#[]⟩ (.slice none 0 0)).grow (balloc (.cells #[.string op, .string s, .bool v.num, .int .i64 v.n, .string ⟨v.s.toArray⟩, .slice none 0 0] 26) (.refl _ _)))
  have HZ2 : Hid (∀ j, (w2.alloc (.cells #[.string op, .string s, .bool v.num, .int .i64 v.n, .string ⟨v.s.toArray⟩, .slice none 0 0] 26)).frozen? ⟨w.heap.size, j, none⟩ = false) := Lib.hid (fun j => by
    rw [(balloc (w := w2) (.cells #[.string op, .string s, .bool v.num, .int .i64 v.n, .string ⟨v.s.toArray⟩, .slice none 0 0] 26) (.refl _ _)).frozen (p := ⟨w.heap.size, j, none⟩) qzz]
    exact qzh.out j)
  refine (HP.out _ (HM.out.grow (balloc _ HB2.out))).mono ?_
  rintro e w3 ⟨rfl, hb3⟩
  have HY3 := HY.out.grow hb3
  have HX3 := HX2.out.grow hb3
  have HB3 := Lib.hid (bstep hb3 (balloc _ HB2.out))
  have HZ3 : ∀ j, w3.frozen? ⟨w.heap.size, j, none⟩ = false := fun j => by
    rw [hb3.frozen (p := ⟨w.heap.size, j, none⟩) HX2.out.hz]
    exact HZ2.out j
  clear qzh qx0 qx1 qx2 qx3 qx4 qx5 qz0 qz1 qz2 qz3 qz4 qz5 d0 d1 e0 e1 HX2 HY HZ2 hb3 HB2
  obtain ⟨qx0, qx1, qx2, qx3, qx4, qx5, qx6⟩ := HX3
  obtain ⟨px0, px1, px2, px3, px4, px5, px6⟩ := HY3
  have qz0 := HZ3 0
  have qz1 := HZ3 1
  have qz2 := HZ3 2
  have qz3 := HZ3 3
  have qz4 := HZ3 4
  have qz5 := HZ3 5
  clear HZ3
  go_wp2_with fail
  refine bodyPost_ret (v := .tuple #[(leafB op s v).agg, .int .i64 0]) (by simp [results, Tryd.results29, go_sem, leafB, PB.agg, PB.op, PB.s, PB.num, PB.n, PB.vs, PB.a, PB.c, PB.l, *]) rfl ⟨rfl, ?_⟩
  (repeat (first | with_reducible exact HB3.out | with_reducible apply bdrew | with_reducible apply balloc | with_reducible refine bset _ (Nat.le_refl _) ?_))
theorem parse_no_c (t s2 : ByteArray) (k : Nat)
    (HI : ∀ g W, 0 ≠ g → MaxW W → ParAt W g t 0 88 → Calls Tryd.prog 48 #[.pointer (some ⟨g, 0, none⟩), .int .i64 8] W fun e W' => e = .returned (.tuple #[(leafB ⟨#[]⟩ ⟨#[]⟩ ⟨false, 0, []⟩).agg, .bool false]) ∧ ParP g s2 k 88 W W')
    (w : World) (hM : MaxW w) :
    Calls Tryd.prog 29 #[.string t] w fun e w' => e = .returned (.tuple #[(leafB ⟨#[]⟩ ⟨#[]⟩ ⟨false, 0, []⟩).agg, .int .i64 2]) ∧ Below w.heap.size w w' := by
  have HM := Lib.hid hM
  unfold leafB PB.agg at HI
  simp only [PB.op, PB.s, PB.num, PB.n, PB.vs, PB.a, PB.c, PB.l, List.length_nil] at HI
  have HI' := Lib.hid HI
  have HX := Lib.hid (PBox.new w ⟨#[]⟩ ⟨#[]⟩ false 0 ⟨#[]⟩ (.slice none 0 0) 26)
  have hmz := hM.2
  clear HI hM
  go_enter Tryd.func29, Tryd.ntmps29
  go_wp2_with fail
  refine (HI'.out (w.heap.size + 1) _ (by omega) (HM.out.grow (balloc _ (balloc _ (.refl _ _)))) ?_).mono ?_
  · show ((w.heap.push _).push _)[w.heap.size + 1]? = _
    rw [Array.getElem?_push, if_pos (by simp)]
    rfl
  rintro e w2 ⟨rfl, hp⟩
  have HB2 := Lib.hid (hp.below (balloc (w := w) _ (balloc _ (.refl _ _))) (by omega) (by simp <;> omega))
  have HX1 := HX.out.grow (balloc (.cells #[.string t, .int .i64 0] 88) (.refl _ _))
  have hne : w.heap.size ≠ w.heap.size + 1 := by omega
  have hlt := HX1.hz
  have qx0 := (hp.cell hlt hne 0).trans HX1.c0
  have qx1 := (hp.cell hlt hne 1).trans HX1.c1
  have qx2 := (hp.cell hlt hne 2).trans HX1.c2
  have qx3 := (hp.cell hlt hne 3).trans HX1.c3
  have qx4 := (hp.cell hlt hne 4).trans HX1.c4
  have qx5 := (hp.cell hlt hne 5).trans HX1.c5
  have qz : ∀ j, w2.frozen? ⟨w.heap.size, j, none⟩ = false := fun j => (hp.frozen hlt hne j).trans (by simp [go_sem])
  have qz0 := qz 0
  have qz1 := qz 1
  have qz2 := qz 2
  have qz3 := qz 3
  have qz4 := qz 4
  have qz5 := qz 5
  obtain ⟨d0, d1, e0, e1, dz⟩ := hp.at'.cells
  have qzz : w.heap.size < w2.heap.size := by omega
  clear hp HX HX1 hlt HI'
  clear qz
  go_wp2_with fail
  refine bodyPost_ret (v := .tuple #[(leafB ⟨#[]⟩ ⟨#[]⟩ ⟨false, 0, []⟩).agg, .int .i64 2]) (by simp [results, Tryd.results29, go_sem, leafB, PB.agg, PB.op, PB.s, PB.num, PB.n, PB.vs, PB.a, PB.c, PB.l, *]) rfl ⟨rfl, ?_⟩
  (repeat (first | with_reducible exact HB2.out | with_reducible apply bdrew | with_reducible apply balloc | with_reducible refine bset _ (Nat.le_refl _) ?_))
theorem may_x (op : ByteArray) (h : op = ⟨#[101, 113]⟩ ∨ op = ⟨#[108, 116]⟩) : mayP (leafB op ⟨#[120]⟩ ⟨true, 5, []⟩).pr = true := by
  rcases h with rfl | rfl <;> rfl
theorem parse_eq_c (w : World) (hM : MaxW w) : Calls Tryd.prog 29 #[.string ⟨#[40, 120, 32, 61, 32, 53, 41]⟩] w fun e w' => e = .returned (.tuple #[(leafB ⟨#[101, 113]⟩ ⟨#[120]⟩ ⟨true, 5, []⟩).agg, .int .i64 0]) ∧ Below w.heap.size w w' :=
  parse_yes_c _ 1 _ _ _ (by decide) (by decide) (may_x _ (.inl rfl)) (fun g W hg hM h => pred_eq_c g hg W hM h) w hM
theorem parse_lt_c (w : World) (hM : MaxW w) : Calls Tryd.prog 29 #[.string ⟨#[40, 120, 32, 60, 32, 53, 41]⟩] w fun e w' => e = .returned (.tuple #[(leafB ⟨#[108, 116]⟩ ⟨#[120]⟩ ⟨true, 5, []⟩).agg, .int .i64 0]) ∧ Below w.heap.size w w' :=
  parse_yes_c _ 1 _ _ _ (by decide) (by decide) (may_x _ (.inr rfl)) (fun g W hg hM h => pred_lt_c g hg W hM h) w hM
theorem parse_bad_c (w : World) (hM : MaxW w) : Calls Tryd.prog 29 #[.string ⟨#[40, 32, 120, 32, 61, 32, 53, 41]⟩] w fun e w' => e = .returned (.tuple #[(leafB ⟨#[]⟩ ⟨#[]⟩ ⟨false, 0, []⟩).agg, .int .i64 2]) ∧ Below w.heap.size w w' :=
  parse_no_c _ _ 2 (fun g W hg hM h => pred_no_c g hg W hM h) w hM
end Go.Proofs.YtmmdblpoecidaaaDoor
