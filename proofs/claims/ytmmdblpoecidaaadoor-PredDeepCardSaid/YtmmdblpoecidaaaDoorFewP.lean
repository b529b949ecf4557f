/- law05.Few. -/
import Derived.Test.YtmmdblpoecidaaaDoorProg
import Derived.WalkKit
import Derived.WalkSpells
import Derived.WalkLawsBesides
import Derived.Lib.Hide
import Derived.IntWalk
import Derived.Test.YtmmdblpoecidaaaDoorFewP5
set_option linter.unusedVariables false
set_option linter.unusedSimpArgs false
namespace Go.Proofs.YtmmdblpoecidaaaDoor
open Go.RowKit Tryst
set_option maxHeartbeats 2000000
set_option maxRecDepth 20000
theorem PArg.grow {v w : World} {p : PB} (h : PArg v p) (hb : Below v.heap.size v w) : PArg w p := by
  induction h with
  | mk op s num n vs a c l h1 h2 h3 h4 hn h5 _ ih => exact .mk op s num n vs a c l h1 h2 h3 h4 hn (h5.grow hb) ih
theorem fewpr_c (x : PB) (w : World) (hx : PArg w x) : Calls Tryd.prog 9 #[x.agg] w fun e w' => ∃ y : PB, e = .returned y.agg ∧ POwn w' (fun b => w.heap.size ≤ b) y ∧ Below w.heap.size w w' := by
  have HC := Lib.hid (fun W hW => fewp_c w x hx 9 49 (by omega) (by omega) W hW)
  clear hx
  obtain ⟨op, s, num, n, vs, a, c, l⟩ := x
  unfold PB.agg at HC ⊢
  simp only [PB.op, PB.s, PB.num, PB.n, PB.vs, PB.a, PB.c, PB.l] at HC ⊢
  rw [show (((49 : Nat) : Int) + 1) = 50 from rfl, show ((9 : Nat) : Int) = 9 from rfl] at HC
  go_enter Tryd.func9, Tryd.ntmps9
  go_upto_region 1 with fail
  have bx0 := BX.new w op s num n vs (.slice a l.length c)
  have bx1 := BX.new (w.alloc (.cells #[.string op, .string s, .bool num, .int .i64 n, .string vs, .slice a l.length c] 26)) ⟨#[]⟩ ⟨#[]⟩ false 0 ⟨#[]⟩ (.slice none 0 0)
  rw [show (w.alloc (.cells #[.string op, .string s, .bool num, .int .i64 n, .string vs, .slice a l.length c] 26)).heap.size = w.heap.size + 1 by simp] at bx1
  refine wp_genC (fun v => Hid (BX v w.heap.size op s num n vs (.slice a l.length c)) ∧ Hid (BX v (w.heap.size + 1) ⟨#[]⟩ ⟨#[]⟩ false 0 ⟨#[]⟩ (.slice none 0 0)) ∧ Hid (Below w.heap.size w v)) ⟨bx0.grow (balloc _ (.refl _ _)), bx1, balloc _ (balloc _ (.refl _ _))⟩ ?_
  rintro Y ⟨HP, HQ, HY⟩
  clear bx0 bx1
  have hQW : w.heap.size ≤ w.heap.size + 1 := Nat.le_succ _
  generalize w.heap.size + 1 = Q at HQ hQW ⊢
  obtain ⟨x0, x1, x2, x3, x4, x5, x6⟩ := HP.out.box
  go_wp2_with fail
  refine (HC.out Y HY.out).mono ?_
  rintro e w2 ⟨y, n', rfl, hO, _, hb2⟩
  have HQ2 := Lib.hid (HQ.out.grow hb2)
  have HY2 := Lib.hid (bstep hb2 HY.out)
  have hQz : Q < Y.heap.size := (Array.getElem?_eq_some_iff.1 HQ.out).1
  have HO2 : Hid (POwn w2 (fun b => w.heap.size ≤ b ∧ b ≠ Q) y) := Lib.hid (hO.grow (.refl _ _) (fun b hb => ⟨by have := HY.out.size; omega, by omega⟩))
  clear x0 x1 x2 x3 x4 x5 x6 HP HQ HY HC hO hb2
  obtain ⟨o0, o1, o2, o3, o4, o5, o6, o7⟩ := y
  unfold PB.agg
  simp only [PB.op, PB.s, PB.num, PB.n, PB.vs, PB.a, PB.c, PB.l]
  go_upto_region 2 with fail
  refine wp_genC (fun u => Hid (BX u w2.heap.size o0 o1 o2 o3 o4 (.slice o5 o7.length o6)) ∧ Hid (BX u Q ⟨#[]⟩ ⟨#[]⟩ false 0 ⟨#[]⟩ (.slice none 0 0)) ∧ Hid (POwn u (fun b => w.heap.size ≤ b ∧ b ≠ Q) (PB.mk o0 o1 o2 o3 o4 o5 o6 o7)) ∧ Hid (Below w.heap.size w u)) ⟨BX.new _ _ _ _ _ _ _, HQ2.out.grow (balloc _ (.refl _ _)), HO2.out.grow (balloc _ (.refl _ _)) (fun _ h => h), balloc _ HY2.out⟩ ?_
  rintro Z ⟨HB, HQ3, HO3, HZ⟩
  generalize w2.heap.size = B at HB ⊢
  clear HQ2 HY2 HO2
  obtain ⟨x0, x1, x2, x3, x4, x5, x6⟩ := HB.out.box
  obtain ⟨w0, w1, w2', w3, w4, w5, w6⟩ := HQ3.out.box
  have z0 := HQ3.out.fz 0
  have z1 := HQ3.out.fz 1
  have z2 := HQ3.out.fz 2
  have z3 := HQ3.out.fz 3
  have z4 := HQ3.out.fz 4
  have z5 := HQ3.out.fz 5
  go_wp2_with fail
  have HYE : Hid (POwn ((((((Z.setCell ⟨Q, 0, none⟩ (.string o0)).setCell ⟨Q, 1, none⟩ (.string o1)).setCell ⟨Q, 2, none⟩ (.bool o2)).setCell ⟨Q, 3, none⟩ (.int .i64 o3)).setCell ⟨Q, 4, none⟩ (.string o4)).setCell ⟨Q, 5, none⟩ (.slice o5 o7.length o6)) (fun b => w.heap.size ≤ b) (PB.mk o0 o1 o2 o3 o4 o5 o6 o7)) := Lib.hid (HO3.out.keep (fun b hb hbz => ⟨by
    rw [Below.heap_setCell _ _ _ _ hb.2, Below.heap_setCell _ _ _ _ hb.2, Below.heap_setCell _ _ _ _ hb.2, Below.heap_setCell _ _ _ _ hb.2, Below.heap_setCell _ _ _ _ hb.2, Below.heap_setCell _ _ _ _ hb.2], hb.1⟩) (by simp))
  refine bodyPost_ret (v := (PB.mk o0 o1 o2 o3 o4 o5 o6 o7).agg) (by simp [results, Tryd.results9, go_sem, PB.agg, PB.op, PB.s, PB.num, PB.n, PB.vs, PB.a, PB.c, PB.l, *]) rfl ⟨_, rfl, HYE.out, bset _ hQW (bset _ hQW (bset _ hQW (bset _ hQW (bset _ hQW (bset _ hQW HZ.out)))))⟩
end Go.Proofs.YtmmdblpoecidaaaDoor
