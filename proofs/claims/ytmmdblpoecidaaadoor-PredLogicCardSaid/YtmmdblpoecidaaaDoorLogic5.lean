/- The walk of the law PredLogic. -/
import Derived.Test.YtmmdblpoecidaaaDoorProg
import Derived.WalkKit
import Derived.WalkSpells
import Derived.WalkLawsBesides
import Derived.Lib.Hide
import Derived.Great.BuildSlice
import Derived.Test.YtmmdblpoecidaaaDoorFwP5
import Derived.Test.YtmmdblpoecidaaaDoorHold5
import Derived.Test.YtmmdblpoecidaaaDoorAwake5
import Derived.Test.YtmmdblpoecidaaaDoorFormP
set_option linter.unusedVariables false
set_option linter.unusedSimpArgs false
namespace Go.Proofs.YtmmdblpoecidaaaDoor
open Go.RowKit Tryst
set_option maxHeartbeats 4000000
set_option maxRecDepth 20000
/-- a predicate made of others -/
def wrapB (op : ByteArray) (s : Nat) (l : List PB) : PB := .mk op ⟨#[]⟩ false 0 ⟨#[]⟩ (some ⟨s, 0, none⟩) l.length l
theorem wrap1 {w : World} {g : Nat} {T : TypeId} {op : ByteArray} {r0 r1 : ByteArray} {r2 : Bool} {r3 : Int} {r4 : ByteArray} {r5 : Option Addr} {r6 : Nat} {r7 : List PB} (h : w.heap[g]? = some (.cells #[.string r0, .string r1, .bool r2, .int .i64 r3, .string r4, .slice r5 r7.length r6] T (0, 0))) (hX : PMem w (.mk r0 r1 r2 r3 r4 r5 r6 r7)) : PMem w (wrapB op g [.mk r0 r1 r2 r3 r4 r5 r6 r7]) := by
  refine .mk _ _ _ _ _ _ _ _ (by decide) (by decide) (by simp) ?_ (fun x hx => by rw [List.mem_singleton] at hx; subst hx; exact hX)
  intro i hi
  obtain rfl : i = 0 := by simpa using hi
  refine ⟨g, 0, rfl, (Array.getElem?_eq_some_iff.1 h).1, fun j hj => ?_⟩
  simp [World.cell?, h, PB.cells, PB.op, PB.s, PB.num, PB.n, PB.vs, PB.a, PB.c, PB.l]
/-- two predicates, one behind the other, in one block -/
structure R12 (w : World) (g : Nat) (a0 a1 : ByteArray) (a2 : Bool) (a3 : Int) (a4 : ByteArray) (a5 : Value) (b0 b1 : ByteArray) (b2 : Bool) (b3 : Int) (b4 : ByteArray) (b5 : Value) : Prop where
  c0 : w.cell? ⟨g, 0, none⟩ = some (.string a0)
  c1 : w.cell? ⟨g, 1, none⟩ = some (.string a1)
  c2 : w.cell? ⟨g, 2, none⟩ = some (.bool a2)
  c3 : w.cell? ⟨g, 3, none⟩ = some (.int .i64 a3)
  c4 : w.cell? ⟨g, 4, none⟩ = some (.string a4)
  c5 : w.cell? ⟨g, 5, none⟩ = some a5
  c6 : w.cell? ⟨g, 6, none⟩ = some (.string b0)
  c7 : w.cell? ⟨g, 7, none⟩ = some (.string b1)
  c8 : w.cell? ⟨g, 8, none⟩ = some (.bool b2)
  c9 : w.cell? ⟨g, 9, none⟩ = some (.int .i64 b3)
  c10 : w.cell? ⟨g, 10, none⟩ = some (.string b4)
  c11 : w.cell? ⟨g, 11, none⟩ = some b5
theorem wrap2 {w : World} {g : Nat} {op : ByteArray} {r0 r1 : ByteArray} {r2 : Bool} {r3 : Int} {r4 : ByteArray} {r5 : Option Addr} {r6 : Nat} {r7 : List PB} {s0 s1 : ByteArray} {s2 : Bool} {s3 : Int} {s4 : ByteArray} {s5 : Option Addr} {s6 : Nat} {s7 : List PB} (h : R12 w g r0 r1 r2 r3 r4 (.slice r5 r7.length r6) s0 s1 s2 s3 s4 (.slice s5 s7.length s6)) (hX : PMem w (.mk r0 r1 r2 r3 r4 r5 r6 r7)) (hY : PMem w (.mk s0 s1 s2 s3 s4 s5 s6 s7)) : PMem w (wrapB op g [.mk r0 r1 r2 r3 r4 r5 r6 r7, .mk s0 s1 s2 s3 s4 s5 s6 s7]) := by
  obtain ⟨h0, h1, h2, h3, h4, h5, h6, h7, h8, h9, h10, h11⟩ := h
  refine .mk _ _ _ _ _ _ _ _ (by decide) (by decide) (by simp) ?_ (fun x hx => by
    rcases List.mem_cons.1 hx with rfl | hx
    · exact hX
    · rw [List.mem_singleton] at hx
      subst hx
      exact hY)
  intro i hi
  refine ⟨g, 0, rfl, (cell_lt h0).1, fun j hj => ?_⟩
  have hi2 : i = 0 ∨ i = 1 := by simp at hi; omega
  have hj6 : j = 0 ∨ j = 1 ∨ j = 2 ∨ j = 3 ∨ j = 4 ∨ j = 5 := by omega
  rcases hi2 with rfl | rfl <;> rcases hj6 with rfl | rfl | rfl | rfl | rfl | rfl <;> simp [*, PB.cells, PB.op, PB.s, PB.num, PB.n, PB.vs, PB.a, PB.c, PB.l]
/-- what the law holds in memory -/
structure LG (w : World) (B gn ga go sn sa so : Nat) (X Y : PB) (t p : ByteArray) (q : Int) (a : Option Addr) (c : Nat) (L : List FB) (W : World) : Prop where
  bp : BX W B X.op X.s X.num X.n X.vs (.slice X.a X.l.length X.c)
  bq : BX W (B + 1) Y.op Y.s Y.num Y.n Y.vs (.slice Y.a Y.l.length Y.c)
  be : EAt W (B + 2) t p q (.slice a L.length c)
  bn : PBox W gn ⟨#[110, 111, 116]⟩ ⟨#[]⟩ false 0 ⟨#[]⟩ (.slice (some ⟨sn, 0, none⟩) 1 1)
  ba : PBox W ga ⟨#[97, 110, 100]⟩ ⟨#[]⟩ false 0 ⟨#[]⟩ (.slice (some ⟨sa, 0, none⟩) 2 2)
  bo : PBox W go ⟨#[111, 114]⟩ ⟨#[]⟩ false 0 ⟨#[]⟩ (.slice (some ⟨so, 0, none⟩) 2 2)
  mX : PMem W X
  mY : PMem W Y
  mN : PMem W (wrapB ⟨#[110, 111, 116]⟩ sn [X])
  mA : PMem W (wrapB ⟨#[97, 110, 100]⟩ sa [X, Y])
  mO : PMem W (wrapB ⟨#[111, 114]⟩ so [Y, X])
  fl : Flds W a L
  bel : Below w.heap.size w W
theorem LG.grow {w : World} {B gn ga go sn sa so : Nat} {X Y : PB} {t p : ByteArray} {q : Int} {a : Option Addr} {c : Nat} {L : List FB} {W W' : World} (h : LG w B gn ga go sn sa so X Y t p q a c L W) (hb : Below W.heap.size W W') : LG w B gn ga go sn sa so X Y t p q a c L W' :=
  ⟨h.bp.grow hb, h.bq.grow hb, h.be.grow (cell_lt h.be.c0).1 hb, h.bn.grow hb, h.ba.grow hb, h.bo.grow hb, h.mX.grow hb, h.mY.grow hb, h.mN.grow hb, h.mA.grow hb, h.mO.grow hb, h.fl.grow hb, bstep hb h.bel⟩
theorem lg_of {w Y W : World} {B C gn ga go sn sa so : Nat} {r0 r1 : ByteArray} {r2 : Bool} {r3 : Int} {r4 : ByteArray} {r5 : Option Addr} {r6 : Nat} {r7 : List PB} {s0 s1 : ByteArray} {s2 : Bool} {s3 : Int} {s4 : ByteArray} {s5 : Option Addr} {s6 : Nat} {s7 : List PB} {t p : ByteArray} {q : Int} {a : Option Addr} {c : Nat} {L : List FB}
    (hp : BX Y B r0 r1 r2 r3 r4 (.slice r5 r7.length r6)) (hq : BX Y (B + 1) s0 s1 s2 s3 s4 (.slice s5 s7.length s6)) (he : EAt Y (B + 2) t p q (.slice a L.length c)) (hn : PBox Y gn ⟨#[110, 111, 116]⟩ ⟨#[]⟩ false 0 ⟨#[]⟩ (.slice (some ⟨sn, 0, none⟩) 1 1))
    (mX : PMem Y (.mk r0 r1 r2 r3 r4 r5 r6 r7)) (mY : PMem Y (.mk s0 s1 s2 s3 s4 s5 s6 s7)) (mN : PMem Y (wrapB ⟨#[110, 111, 116]⟩ sn [.mk r0 r1 r2 r3 r4 r5 r6 r7])) (fl : Flds Y a L) (bel : Below w.heap.size w Y) (_ : B + 1 = C) (hb : Below Y.heap.size Y W)
    (ba : PBox W ga ⟨#[97, 110, 100]⟩ ⟨#[]⟩ false 0 ⟨#[]⟩ (.slice (some ⟨sa, 0, none⟩) 2 2)) (bo : PBox W go ⟨#[111, 114]⟩ ⟨#[]⟩ false 0 ⟨#[]⟩ (.slice (some ⟨so, 0, none⟩) 2 2)) (ra : R12 W sa r0 r1 r2 r3 r4 (.slice r5 r7.length r6) s0 s1 s2 s3 s4 (.slice s5 s7.length s6)) (ro : R12 W so s0 s1 s2 s3 s4 (.slice s5 s7.length s6) r0 r1 r2 r3 r4 (.slice r5 r7.length r6)) :
    LG w B gn ga go sn sa so (.mk r0 r1 r2 r3 r4 r5 r6 r7) (.mk s0 s1 s2 s3 s4 s5 s6 s7) t p q a c L W :=
  ⟨hp.grow hb, hq.grow hb, he.grow (cell_lt he.c0).1 hb, hn.grow hb, ba, bo, mX.grow hb, mY.grow hb, mN.grow hb, wrap2 ra (mX.grow hb) (mY.grow hb), wrap2 ro (mY.grow hb) (mX.grow hb), fl.grow hb, bstep hb bel⟩
theorem lgh_of {w Y W : World} {B C gn ga go sn sa so : Nat} {r0 r1 : ByteArray} {r2 : Bool} {r3 : Int} {r4 : ByteArray} {r5 : Option Addr} {r6 : Nat} {r7 : List PB} {s0 s1 : ByteArray} {s2 : Bool} {s3 : Int} {s4 : ByteArray} {s5 : Option Addr} {s6 : Nat} {s7 : List PB} {t p : ByteArray} {q : Int} {a : Option Addr} {c : Nat} {L : List FB}
    (hp : BX Y B r0 r1 r2 r3 r4 (.slice r5 r7.length r6)) (hq : BX Y (B + 1) s0 s1 s2 s3 s4 (.slice s5 s7.length s6)) (he : EAt Y (B + 2) t p q (.slice a L.length c)) (hn : PBox Y gn ⟨#[110, 111, 116]⟩ ⟨#[]⟩ false 0 ⟨#[]⟩ (.slice (some ⟨sn, 0, none⟩) 1 1))
    (mX : PMem Y (.mk r0 r1 r2 r3 r4 r5 r6 r7)) (mY : PMem Y (.mk s0 s1 s2 s3 s4 s5 s6 s7)) (mN : PMem Y (wrapB ⟨#[110, 111, 116]⟩ sn [.mk r0 r1 r2 r3 r4 r5 r6 r7])) (fl : Flds Y a L) (bel : Below w.heap.size w Y) (hC : B + 1 = C) (_ : W.cell? ⟨ga, 5, none⟩ = some (.slice (some ⟨sa, 0, none⟩) 2 2)) (_ : W.cell? ⟨go, 5, none⟩ = some (.slice (some ⟨so, 0, none⟩) 2 2)) (hb : Below Y.heap.size Y W)
    (ba : PBox W ga ⟨#[97, 110, 100]⟩ ⟨#[]⟩ false 0 ⟨#[]⟩ (.slice (some ⟨sa, 0, none⟩) 2 2)) (bo : PBox W go ⟨#[111, 114]⟩ ⟨#[]⟩ false 0 ⟨#[]⟩ (.slice (some ⟨so, 0, none⟩) 2 2)) (ra : R12 W sa r0 r1 r2 r3 r4 (.slice r5 r7.length r6) s0 s1 s2 s3 s4 (.slice s5 s7.length s6)) (ro : R12 W so s0 s1 s2 s3 s4 (.slice s5 s7.length s6) r0 r1 r2 r3 r4 (.slice r5 r7.length r6)) :
    Hid (LG w B gn ga go sn sa so (.mk r0 r1 r2 r3 r4 r5 r6 r7) (.mk s0 s1 s2 s3 s4 s5 s6 s7) t p q a c L W) :=
  Lib.hid (lg_of hp hq he hn mX mY mN fl bel hC hb ba bo ra ro)
theorem all_may : mayP (PB.mk ⟨#[97, 108, 108]⟩ ⟨#[]⟩ false 0 ⟨#[]⟩ none 0 []).pr = true := by rfl
theorem predLogic_c (x y : PB) (t p : ByteArray) (q : Int) (a : Option Addr) (l : List FB) (c : Nat) (ht : t.size ≤ 9223372036854775807) (hp : p.size ≤ 9223372036854775807) (h0 : 0 ≤ q) (h4 : q ≤ 18446744073709551615) (hI : FIn l) (hl : l.length ≤ 9223372036854775807) (w : World) (hM : MaxW w) (hX : PArg w x) (hY : PArg w y) (hF : Flds w a l) :
    Calls Tryd.prog 3 #[x.agg, y.agg, .agg #[.string t, .string p, .int .u64 q, .slice a l.length c]] w fun e w' => e = .returned (.bool true) ∧ Below w.heap.size w w' := by
  obtain ⟨hO, hO2, hlen⟩ := few_ok hI
  have HM := Lib.hid hM
  have CX := Lib.hid (fun W (hb : Below w.heap.size w W) => fewpr_c x W (PArg.grow hX hb))
  have CY := Lib.hid (fun W (hb : Below w.heap.size w W) => fewpr_c y W (PArg.grow hY hb))
  have CF := Lib.hid (fun W (hb : Below w.heap.size w W) => efewO_c t p q a c l hl ht hp (few_in hI) W (hF.grow hb))
  have u1 := few60_le t
  have u2 := few60_le p
  clear hF hM hI hO hO2 hl ht hp hX hY
  revert CF hlen u1 u2
  generalize few60 t = t1
  generalize few60 p = p1
  generalize fewL l = L
  intro hlen CF u1 u2
  obtain ⟨m0, m1, m2, m3, m4, m5, m6, m7⟩ := x
  obtain ⟨n0, n1, n2, n3, n4, n5, n6, n7⟩ := y
  unfold PB.agg at CX CY ⊢
  simp only [PB.op, PB.s, PB.num, PB.n, PB.vs, PB.a, PB.c, PB.l] at CX CY ⊢
  go_enter Tryd.func3, Tryd.ntmps3
  go_upto_region 1 with fail
  have bx0 := BX.new w m0 m1 m2 m3 m4 (.slice m5 m7.length m6)
  have bx1 := BX.new (w.alloc (.cells #[.string m0, .string m1, .bool m2, .int .i64 m3, .string m4, .slice m5 m7.length m6] 26)) n0 n1 n2 n3 n4 (.slice n5 n7.length n6)
  rw [show (w.alloc (.cells #[.string m0, .string m1, .bool m2, .int .i64 m3, .string m4, .slice m5 m7.length m6] 26)).heap.size = w.heap.size + 1 by simp] at bx1
  refine wp_genC (fun v => Hid (BX v w.heap.size m0 m1 m2 m3 m4 (.slice m5 m7.length m6)) ∧ Hid (BX v (w.heap.size + 1) n0 n1 n2 n3 n4 (.slice n5 n7.length n6)) ∧ Hid (EAt v (w.heap.size + 2) t p q (.slice a l.length c)) ∧ Hid (Below w.heap.size w v) ∧ v.heap.size = w.heap.size + 3) ⟨(bx0.grow (balloc _ (.refl _ _))).grow (balloc _ (.refl _ _)), bx1.grow (balloc _ (.refl _ _)), ?_, balloc _ (balloc _ (balloc _ (.refl _ _))), by simp⟩ ?_
  · show EAt _ _ _ _ _ _
    constructor <;> simp [go_sem]
  rintro Y ⟨HP, HQ, HE, HY, hYz⟩
  clear bx0 bx1
  obtain ⟨x0, x1, x2, x3, x4, x5, x6⟩ := HP.out.box
  obtain ⟨y0, y1, y2, y3, y4, y5, y6⟩ := HQ.out.box
  obtain ⟨e0, e1, e2, e3, e4, e5, e6, e7⟩ := HE.out
  refine Tryst2.wp_region_grows [.is (.agg #[.string m0, .string m1, .bool m2, .int .i64 m3, .string m4, .slice m5 m7.length m6]), .any (PrO (w.heap.size + 3)), .is (.agg #[.string n0, .string n1, .bool n2, .int .i64 n3, .string n4, .slice n5 n7.length n6]), .any (PrO (w.heap.size + 3)), .is (.agg #[.string t, .string p, .int .u64 q, .slice a l.length c]), .any (EvO (w.heap.size + 3) t1 p1 q L)] (by kernel_rfl) (by kernel_rfl) ?obl ?fin
  case obl =>
    simp only [Tryst2.AllObl, Tryst2.dstL, Tryst2.Obl, Tryst2.depsOf, Tryst2.binds_data, Tryst2.binds_chain, Tryst2.binds_phase, Tryst2.binds_guard, Tryst2.binds_text, Tryst2.binds_gc, Bool.false_eq_true, if_false, List.filterMap_cons_some, List.filterMap_cons_none, Tryst2.depsR, Tryst2.holdR, Tryst2.tmpsOf, Op.operands, Call.operands, Tryst2.Rsp.pred, Tryst2.wantedV_none, Tryst2.wantedV_some, if_true, List.map_cons, List.map_nil, List.length_map, List.take_succ_cons, List.take_zero, List.length_cons, List.length_nil, List.getElem?_cons_zero, List.getElem?_cons_succ, Option.bind_some, id, List.getD_cons_zero, List.getD_cons_succ, Tryst2.isDst, List.filterMap_cons, List.filterMap_nil, List.toList_toArray]
    repeat' apply And.intro
    any_goals trivial
    all_goals (intro tv w' hg hold hd; (try simp at hold); obtain ⟨hcg, hfg⟩ := Tryst2.Grow.cells hg; have hsg := Tryst2.Grow.le hg)
    all_goals first | (go_simp; done) | (go_simp; rw [if_neg (by omega)]; exact ⟨.refl _, rfl⟩) | (obtain ⟨⟨g, hvg, hgg, hcell⟩, _⟩ := hd; have hcell0 := hcell 0 (by decide); simp at hcell0; go_simp; done) | (go_simp; go_at_call 9; (with_reducible refine (CX.out _ ?_).mono ?_); (exact bstep (Tryst2.Grow.below hg (.refl Y.heap.size Y)) HY.out); rintro e w2 ⟨y, rfl, ho, hb2⟩; exact PrO.of ho hb2 (by have := hg.size; omega)) | (go_simp; go_at_call 9; (with_reducible refine (CY.out _ ?_).mono ?_); (exact bstep (Tryst2.Grow.below hg (.refl Y.heap.size Y)) HY.out); rintro e w2 ⟨y, rfl, ho, hb2⟩; exact PrO.of ho hb2 (by have := hg.size; omega)) | (go_simp; go_at_call 10; (with_reducible refine (CF.out _ ?_).mono ?_); (exact bstep (Tryst2.Grow.below hg (.refl Y.heap.size Y)) HY.out); rintro e w2 ⟨a', c', rfl, ho, hb2⟩; exact EvO.of ho hb2 (by have := hg.size; omega))
  case fin =>
    intro tv w' hg hR
    simp only [Tryst2.allR, Tryst2.dstL, Tryst2.Rsp.pred, List.map_cons, List.map_nil, List.take_succ_cons, List.take_zero, List.length_cons, List.length_nil, List.tail_cons, List.toList_toArray] at hR
    obtain ⟨hcg, hfg⟩ := Tryst2.Grow.cells hg
    have hsg := Tryst2.Grow.le hg
    simp only [Tryst2.putAll, Tryst2.dstL, List.map_cons, List.map_nil, List.take_succ_cons, List.take_zero, List.length_cons, List.length_nil, List.toList_toArray, List.drop_succ_cons, List.drop_zero, Act.put, List.setIfInBounds_toArray, List.set_cons_zero, List.set_cons_succ, hR]
    obtain ⟨z1, eX, hX1⟩ := PrO.at hR.2.1
    obtain ⟨z2, eY, hY1⟩ := PrO.at hR.2.2.2.1
    obtain ⟨aA, cA, eA, fA, sA, bA⟩ := EvO.at hR.2.2.2.2.2.1
    simp only [eX, eY, eA]
    have HBZ := Lib.hid (Tryst2.Grow.below hg (.refl Y.heap.size Y))
    have HP2 := Lib.hid (HP.out.grow HBZ.out)
    have HQ2 := Lib.hid (HQ.out.grow HBZ.out)
    have HE2 := Lib.hid (HE.out.grow (by omega) HBZ.out)
    have HY2 := Lib.hid (bstep HBZ.out HY.out)
    have hz2 : w.heap.size + 3 ≤ w'.heap.size := by
      have := HBZ.out.size
      omega
    have GX := Lib.hid hX1.1
    have NX := Lib.hid hX1.2
    have GY := Lib.hid hY1.1
    have NY := Lib.hid hY1.2
    have GF := Lib.hid fA
    have GB := Lib.hid bA
    have SA := Lib.hid sA
    clear hg hR hcg hfg hsg x0 x1 x2 x3 x4 x5 x6 y0 y1 y2 y3 y4 y5 y6 e0 e1 e2 e3 e4 e5 e6 e7 HP HQ HE HY CX CY CF HBZ eX eY eA hX1 hY1 fA bA sA hYz
    obtain ⟨r0, r1, r2, r3, r4, r5, r6, r7⟩ := z1
    obtain ⟨s0, s1, s2, s3, s4, s5, s6, s7⟩ := z2
    unfold PB.agg
    simp only [PB.op, PB.s, PB.num, PB.n, PB.vs, PB.a, PB.c, PB.l]
    obtain ⟨x0, x1, x2, x3, x4, x5, x6⟩ := HP2.out.box
    obtain ⟨y0, y1, y2, y3, y4, y5, y6⟩ := HQ2.out.box
    obtain ⟨e0, e1, e2, e3, e4, e5, e6, e7⟩ := HE2.out
    have z0 := HP2.out.fz 0
    have z1 := HP2.out.fz 1
    have z2 := HP2.out.fz 2
    have z3 := HP2.out.fz 3
    have z4 := HP2.out.fz 4
    have z5 := HP2.out.fz 5
    have t0 := HQ2.out.fz 0
    have t1' := HQ2.out.fz 1
    have t2 := HQ2.out.fz 2
    have t3 := HQ2.out.fz 3
    have t4 := HQ2.out.fz 4
    have t5 := HQ2.out.fz 5
    go_upto_region 2 with fail
    refine wp_genC (fun v => Hid (BX v w.heap.size r0 r1 r2 r3 r4 (.slice r5 r7.length r6)) ∧ Hid (BX v (w.heap.size + 1) s0 s1 s2 s3 s4 (.slice s5 s7.length s6)) ∧ Hid (EAt v (w.heap.size + 2) t1 p1 q (.slice aA L.length cA)) ∧ Hid (POwn v (fun b => w.heap.size + 3 ≤ b) (PB.mk r0 r1 r2 r3 r4 r5 r6 r7)) ∧ Hid (POwn v (fun b => w.heap.size + 3 ≤ b) (PB.mk s0 s1 s2 s3 s4 s5 s6 s7)) ∧ Hid (Flds v aA L) ∧ Hid (Below w.heap.size w v)) ⟨two_p HP2.out, two_q HQ2.out, two_e HE2.out, two_o GX.out, two_o GY.out, two_f GF.out GB.out, two_b HY2.out⟩ ?_
    clear x0 x1 x2 x3 x4 x5 x6 y0 y1 y2 y3 y4 y5 y6 e0 e1 e2 e3 e4 e5 e6 e7 z0 z1 z2 z3 z4 z5 t0 t1' t2 t3 t4 t5 HP2 HQ2 HE2 HY2 GX GY GF hz2 GB
    rintro Z ⟨HP, HQ, HE, GX, GY, GF, HZ⟩
    obtain ⟨x0, x1, x2, x3, x4, x5, x6⟩ := HP.out.box
    obtain ⟨y0, y1, y2, y3, y4, y5, y6⟩ := HQ.out.box
    go_upto_region 3 with fail
    refine wp_genC (fun v => Hid (BX v w.heap.size r0 r1 r2 r3 r4 (.slice r5 r7.length r6)) ∧ Hid (BX v (w.heap.size + 1) s0 s1 s2 s3 s4 (.slice s5 s7.length s6)) ∧ Hid (EAt v (w.heap.size + 2) t1 p1 q (.slice aA L.length cA)) ∧ Hid (PMem v (PB.mk r0 r1 r2 r3 r4 r5 r6 r7)) ∧ Hid (PMem v (PB.mk s0 s1 s2 s3 s4 s5 s6 s7)) ∧ Hid (Flds v aA L) ∧ Hid (Below w.heap.size w v) ∧ Hid (PBox v (Z.heap.size + 1) ⟨#[110, 111, 116]⟩ ⟨#[]⟩ false 0 ⟨#[]⟩ (.slice (some ⟨Z.heap.size, 0, none⟩) 1 1)) ∧ Hid (PMem v (wrapB ⟨#[110, 111, 116]⟩ Z.heap.size [PB.mk r0 r1 r2 r3 r4 r5 r6 r7]))) ?_ ?_
    · have b2 := balloc (.cells #[.string ⟨#[110, 111, 116]⟩, .string ⟨#[]⟩, .bool false, .int .i64 0, .string ⟨#[]⟩, .slice (some ⟨Z.heap.size, 0, none⟩) 1 1] 26) (balloc (.cells #[.string r0, .string r1, .bool r2, .int .i64 r3, .string r4, .slice r5 r7.length r6] 26) (.refl Z.heap.size Z))
      refine ⟨HP.out.grow b2, HQ.out.grow b2, HE.out.grow (cell_lt HE.out.c0).1 b2, GX.out.mem.grow b2, GY.out.mem.grow b2, GF.out.grow b2, bstep b2 HZ.out, ?_, ?_⟩
      · have h := BX.new (Z.alloc (.cells #[.string r0, .string r1, .bool r2, .int .i64 r3, .string r4, .slice r5 r7.length r6] 26)) ⟨#[110, 111, 116]⟩ ⟨#[]⟩ false 0 ⟨#[]⟩ (.slice (some ⟨Z.heap.size, 0, none⟩) 1 1)
        exact Lib.hid (by simpa using h.box)
      · exact Lib.hid (wrap1 (((BX.new Z r0 r1 r2 r3 r4 (.slice r5 r7.length r6)).grow (balloc _ (.refl _ _))) : BX _ _ _ _ _ _ _ _) (GX.out.mem.grow b2))
    clear x0 x1 x2 x3 x4 x5 x6 y0 y1 y2 y3 y4 y5 y6 HP HQ HE HZ GX GY GF
    rintro Y ⟨HP, HQ, HE, GX, GY, GF, HZ, HN, GN⟩
    generalize Z.heap.size + 1 = gn at HN ⊢
    generalize Z.heap.size = sn at HN GN ⊢
    obtain ⟨B, hB⟩ : ∃ B, w.heap.size = B := ⟨_, rfl⟩
    rw [hB] at HP HQ HE ⊢
    obtain ⟨x0, x1, x2, x3, x4, x5, x6⟩ := HP.out.box
    obtain ⟨y0, y1, y2, y3, y4, y5, y6⟩ := HQ.out.box
    obtain ⟨C, hC⟩ : ∃ C, B + 1 = C := ⟨_, rfl⟩
    rw [hC] at y0 y1 y2 y3 y4 y5 y6 ⊢
    obtain ⟨D, hD⟩ : ∃ D, C + 1 = D := ⟨_, rfl⟩
    rw [hD]
    have HBC := Lib.hid (And.intro hB (And.intro hC hD))
    clear hB hC hD
    have q1 : B < Y.heap.size + 1 := by omega
    have q2 : B < Y.heap.size + 1 + 1 := by omega
    have q3 : B < Y.heap.size + 1 + 1 + 1 := by omega
    have q4 : C < Y.heap.size + 1 := by omega
    have q5 : C < Y.heap.size + 1 + 1 := by omega
    have q6 : C < Y.heap.size + 1 + 1 + 1 := by omega
    go_cut [8, 9] from 21 to 28 (fun v8 v9 wx => ∃ ga go sa so, v8 = .pointer (some ⟨ga, 0, none⟩) ∧ v9 = .pointer (some ⟨go, 0, none⟩) ∧ Hid (LG w B gn ga go sn sa so (PB.mk r0 r1 r2 r3 r4 r5 r6 r7) (PB.mk s0 s1 s2 s3 s4 s5 s6 s7) t1 p1 q aA cA L wx))
    case first =>
      rename_i a2 J K' a1 a0
      have A2 := Lib.hid a2
      have A1 := Lib.hid a1
      have A0 := Lib.hid a0
      clear a2 a1 a0
      go_region
      all_goals
        have a1 := A1.out
        have a0 := A0.out
        clear A1 A0
        go_wp2_with fail
        go_meet
        first
          | (refine ⟨_, _, Y.heap.size, Y.heap.size + 1, rfl, rfl, ?_⟩; refine lgh_of HP.out HQ.out HE.out HN.out GX.out GY.out GN.out GF.out HZ.out HBC.out.2.1 ?_ ?_ ?_ ?_ ?_ ?_ ?_; simp [go_sem] <;> omega; simp [go_sem] <;> omega)
          | (refine ⟨_, _, Y.heap.size, Y.heap.size + 1 + 1, rfl, rfl, ?_⟩; refine lgh_of HP.out HQ.out HE.out HN.out GX.out GY.out GN.out GF.out HZ.out HBC.out.2.1 ?_ ?_ ?_ ?_ ?_ ?_ ?_; simp [go_sem] <;> omega; simp [go_sem] <;> omega)
          | (refine ⟨_, _, Y.heap.size, Y.heap.size + 1 + 1 + 1, rfl, rfl, ?_⟩; refine lgh_of HP.out HQ.out HE.out HN.out GX.out GY.out GN.out GF.out HZ.out HBC.out.2.1 ?_ ?_ ?_ ?_ ?_ ?_ ?_; simp [go_sem] <;> omega; simp [go_sem] <;> omega)
          | (refine ⟨_, _, Y.heap.size + 1, Y.heap.size, rfl, rfl, ?_⟩; refine lgh_of HP.out HQ.out HE.out HN.out GX.out GY.out GN.out GF.out HZ.out HBC.out.2.1 ?_ ?_ ?_ ?_ ?_ ?_ ?_; simp [go_sem] <;> omega; simp [go_sem] <;> omega)
          | (refine ⟨_, _, Y.heap.size + 1, Y.heap.size + 1 + 1, rfl, rfl, ?_⟩; refine lgh_of HP.out HQ.out HE.out HN.out GX.out GY.out GN.out GF.out HZ.out HBC.out.2.1 ?_ ?_ ?_ ?_ ?_ ?_ ?_; simp [go_sem] <;> omega; simp [go_sem] <;> omega)
          | (refine ⟨_, _, Y.heap.size + 1, Y.heap.size + 1 + 1 + 1, rfl, rfl, ?_⟩; refine lgh_of HP.out HQ.out HE.out HN.out GX.out GY.out GN.out GF.out HZ.out HBC.out.2.1 ?_ ?_ ?_ ?_ ?_ ?_ ?_; simp [go_sem] <;> omega; simp [go_sem] <;> omega)
          | (refine ⟨_, _, Y.heap.size + 1 + 1, Y.heap.size, rfl, rfl, ?_⟩; refine lgh_of HP.out HQ.out HE.out HN.out GX.out GY.out GN.out GF.out HZ.out HBC.out.2.1 ?_ ?_ ?_ ?_ ?_ ?_ ?_; simp [go_sem] <;> omega; simp [go_sem] <;> omega)
          | (refine ⟨_, _, Y.heap.size + 1 + 1, Y.heap.size + 1, rfl, rfl, ?_⟩; refine lgh_of HP.out HQ.out HE.out HN.out GX.out GY.out GN.out GF.out HZ.out HBC.out.2.1 ?_ ?_ ?_ ?_ ?_ ?_ ?_; simp [go_sem] <;> omega; simp [go_sem] <;> omega)
          | (refine ⟨_, _, Y.heap.size + 1 + 1, Y.heap.size + 1 + 1 + 1, rfl, rfl, ?_⟩; refine lgh_of HP.out HQ.out HE.out HN.out GX.out GY.out GN.out GF.out HZ.out HBC.out.2.1 ?_ ?_ ?_ ?_ ?_ ?_ ?_; simp [go_sem] <;> omega; simp [go_sem] <;> omega)
          | (refine ⟨_, _, Y.heap.size + 1 + 1 + 1, Y.heap.size, rfl, rfl, ?_⟩; refine lgh_of HP.out HQ.out HE.out HN.out GX.out GY.out GN.out GF.out HZ.out HBC.out.2.1 ?_ ?_ ?_ ?_ ?_ ?_ ?_; simp [go_sem] <;> omega; simp [go_sem] <;> omega)
          | (refine ⟨_, _, Y.heap.size + 1 + 1 + 1, Y.heap.size + 1, rfl, rfl, ?_⟩; refine lgh_of HP.out HQ.out HE.out HN.out GX.out GY.out GN.out GF.out HZ.out HBC.out.2.1 ?_ ?_ ?_ ?_ ?_ ?_ ?_; simp [go_sem] <;> omega; simp [go_sem] <;> omega)
          | (refine ⟨_, _, Y.heap.size + 1 + 1 + 1, Y.heap.size + 1 + 1, rfl, rfl, ?_⟩; refine lgh_of HP.out HQ.out HE.out HN.out GX.out GY.out GN.out GF.out HZ.out HBC.out.2.1 ?_ ?_ ?_ ?_ ?_ ?_ ?_; simp [go_sem] <;> omega; simp [go_sem] <;> omega)
        · repeat (first | with_reducible exact Below.refl _ _ | with_reducible apply bdrew | with_reducible refine balloc _ ?_)
        · constructor <;> simp [go_sem] <;> omega
        · constructor <;> simp [go_sem] <;> omega
        · constructor <;> simp [go_sem] <;> omega
        · constructor <;> simp [go_sem] <;> omega
    case rest =>
    obtain ⟨ga, go, sa, so, rfl, rfl, HG⟩ := hcut
    clear HP HQ HE GX GY GF HZ HN GN x0 x1 x2 x3 x4 x5 x6 y0 y1 y2 y3 y4 y5 y6 q1 q2 q3 q4 q5 q6
    obtain ⟨hB, hC, hD⟩ := HBC.out
    obtain ⟨K, hK1, hK2⟩ : ∃ K : World → Prop, (∀ W, LG w B gn ga go sn sa so (PB.mk r0 r1 r2 r3 r4 r5 r6 r7) (PB.mk s0 s1 s2 s3 s4 s5 s6 s7) t1 p1 q aA cA L W → K W) ∧ (∀ W, K W → LG w B gn ga go sn sa so (PB.mk r0 r1 r2 r3 r4 r5 r6 r7) (PB.mk s0 s1 s2 s3 s4 s5 s6 s7) t1 p1 q aA cA L W) := ⟨_, fun _ h => h, fun _ h => h⟩
    have KG := Lib.hid (fun W W' (h : K W) (hb : Below W.heap.size W W') => hK1 W' ((hK2 W h).grow hb))
    have KB : Hid (∀ W, K W → PBox W B r0 r1 r2 r3 r4 (.slice r5 r7.length r6) ∧ PBox W C s0 s1 s2 s3 s4 (.slice s5 s7.length s6) ∧ EAt W D t1 p1 q (.slice aA L.length cA) ∧ PBox W gn ⟨#[110, 111, 116]⟩ ⟨#[]⟩ false 0 ⟨#[]⟩ (.slice (some ⟨sn, 0, none⟩) 1 1) ∧ PBox W ga ⟨#[97, 110, 100]⟩ ⟨#[]⟩ false 0 ⟨#[]⟩ (.slice (some ⟨sa, 0, none⟩) 2 2) ∧ PBox W go ⟨#[111, 114]⟩ ⟨#[]⟩ false 0 ⟨#[]⟩ (.slice (some ⟨so, 0, none⟩) 2 2) ∧ D < W.heap.size) := Lib.hid (fun W h => by
      have g := hK2 W h
      have gq := g.bq.box
      have ge := g.be
      rw [hC] at gq
      rw [show B + 2 = D by omega] at ge
      exact ⟨g.bp.box, gq, ge, g.bn, g.ba, g.bo, (cell_lt ge.c0).1⟩)
    have KL := Lib.hid (fun W (h : K W) => (hK2 W h).bel)
    obtain ⟨bN, hbN⟩ : ∃ b, mayP (wrapB ⟨#[110, 111, 116]⟩ sn [PB.mk r0 r1 r2 r3 r4 r5 r6 r7]).pr = b := ⟨_, rfl⟩
    obtain ⟨bA, hbA⟩ : ∃ b, mayP (wrapB ⟨#[97, 110, 100]⟩ sa [PB.mk r0 r1 r2 r3 r4 r5 r6 r7, PB.mk s0 s1 s2 s3 s4 s5 s6 s7]).pr = b := ⟨_, rfl⟩
    obtain ⟨bO, hbO⟩ : ∃ b, mayP (wrapB ⟨#[111, 114]⟩ so [PB.mk s0 s1 s2 s3 s4 s5 s6 s7, PB.mk r0 r1 r2 r3 r4 r5 r6 r7]).pr = b := ⟨_, rfl⟩
    obtain ⟨hx, hhx⟩ : ∃ b, holdsP t1 L (PB.mk r0 r1 r2 r3 r4 r5 r6 r7).pr = b := ⟨_, rfl⟩
    obtain ⟨hy, hhy⟩ : ∃ b, holdsP t1 L (PB.mk s0 s1 s2 s3 s4 s5 s6 s7).pr = b := ⟨_, rfl⟩
    have MN : Hid (∀ W, K W → Calls Tryd.prog 11 #[.agg #[.string ⟨#[110, 111, 116]⟩, .string ⟨#[]⟩, .bool false, .int .i64 0, .string ⟨#[]⟩, .slice (some ⟨sn, 0, none⟩) 1 1]] W fun e w' => e = .returned (.bool bN) ∧ Below W.heap.size W w') := Lib.hid (fun W h => by
      rw [← hbN]
      exact may5_c (wrapB ⟨#[110, 111, 116]⟩ sn [PB.mk r0 r1 r2 r3 r4 r5 r6 r7]) W (HM.out.grow (hK2 W h).bel) (hK2 W h).mN)
    have MA : Hid (∀ W, K W → Calls Tryd.prog 11 #[.agg #[.string ⟨#[97, 110, 100]⟩, .string ⟨#[]⟩, .bool false, .int .i64 0, .string ⟨#[]⟩, .slice (some ⟨sa, 0, none⟩) 2 2]] W fun e w' => e = .returned (.bool bA) ∧ Below W.heap.size W w') := Lib.hid (fun W h => by
      rw [← hbA]
      exact may5_c (wrapB ⟨#[97, 110, 100]⟩ sa [PB.mk r0 r1 r2 r3 r4 r5 r6 r7, PB.mk s0 s1 s2 s3 s4 s5 s6 s7]) W (HM.out.grow (hK2 W h).bel) (hK2 W h).mA)
    have MO : Hid (∀ W, K W → Calls Tryd.prog 11 #[.agg #[.string ⟨#[111, 114]⟩, .string ⟨#[]⟩, .bool false, .int .i64 0, .string ⟨#[]⟩, .slice (some ⟨so, 0, none⟩) 2 2]] W fun e w' => e = .returned (.bool bO) ∧ Below W.heap.size W w') := Lib.hid (fun W h => by
      rw [← hbO]
      exact may5_c (wrapB ⟨#[111, 114]⟩ so [PB.mk s0 s1 s2 s3 s4 s5 s6 s7, PB.mk r0 r1 r2 r3 r4 r5 r6 r7]) W (HM.out.grow (hK2 W h).bel) (hK2 W h).mO)
    have AW := Lib.hid (fun W (h : K W) => awake5_c W (HM.out.grow (hK2 W h).bel))
    have HALL : Hid (∀ W, K W → Calls Tryd.prog 12 #[.agg #[.string ⟨#[97, 108, 108]⟩, .string ⟨#[]⟩, .bool false, .int .i64 0, .string ⟨#[]⟩, .slice none 0 0], .agg #[.string t1, .string p1, .int .u64 q, .slice aA L.length cA]] W fun e w' => e = .returned (.bool true) ∧ Below W.heap.size W w') := Lib.hid (fun W h => by
      have h2 := holds5_c (PB.mk ⟨#[97, 108, 108]⟩ ⟨#[]⟩ false 0 ⟨#[]⟩ none 0 []) t1 p1 q aA L cA (by omega) (by omega) W (HM.out.grow (hK2 W h).bel) (.mk _ _ _ _ _ _ _ _ (by decide) (by decide) (by simp) (Row.nil _ _ _) (fun x hx => by cases hx)) (hK2 W h).fl
      have e : (mayP (PB.mk ⟨#[97, 108, 108]⟩ ⟨#[]⟩ false 0 ⟨#[]⟩ none 0 []).pr && holdsP t1 L (PB.mk ⟨#[97, 108, 108]⟩ ⟨#[]⟩ false 0 ⟨#[]⟩ none 0 []).pr) = true := by
        rw [all_may, PB.pr, show (⟨#[97, 108, 108]⟩ : ByteArray) = Opk.all.text from rfl, holdsP, opk_text]
        rfl
      rw [e] at h2
      exact h2)
    have HNOT : Hid (bN = true → ∀ W, K W → Calls Tryd.prog 12 #[.agg #[.string ⟨#[110, 111, 116]⟩, .string ⟨#[]⟩, .bool false, .int .i64 0, .string ⟨#[]⟩, .slice (some ⟨sn, 0, none⟩) 1 1], .agg #[.string t1, .string p1, .int .u64 q, .slice aA L.length cA]] W fun e w' => e = .returned (.bool !hx) ∧ Below W.heap.size W w') := Lib.hid (fun e1 W h => by
      have h2 := holds5_c (wrapB ⟨#[110, 111, 116]⟩ sn [PB.mk r0 r1 r2 r3 r4 r5 r6 r7]) t1 p1 q aA L cA (by omega) (by omega) W (HM.out.grow (hK2 W h).bel) (hK2 W h).mN (hK2 W h).fl
      rw [hbN, e1, Bool.true_and] at h2
      have e : holdsP t1 L (wrapB ⟨#[110, 111, 116]⟩ sn [PB.mk r0 r1 r2 r3 r4 r5 r6 r7]).pr = !hx := by
        rw [← hhx]
        exact holds_not t1 L _ _ _ _ _
      rw [e] at h2
      exact h2)
    have HAND : Hid (bA = true → ∀ W, K W → Calls Tryd.prog 12 #[.agg #[.string ⟨#[97, 110, 100]⟩, .string ⟨#[]⟩, .bool false, .int .i64 0, .string ⟨#[]⟩, .slice (some ⟨sa, 0, none⟩) 2 2], .agg #[.string t1, .string p1, .int .u64 q, .slice aA L.length cA]] W fun e w' => e = .returned (.bool (hx && hy)) ∧ Below W.heap.size W w') := Lib.hid (fun e1 W h => by
      have h2 := holds5_c (wrapB ⟨#[97, 110, 100]⟩ sa [PB.mk r0 r1 r2 r3 r4 r5 r6 r7, PB.mk s0 s1 s2 s3 s4 s5 s6 s7]) t1 p1 q aA L cA (by omega) (by omega) W (HM.out.grow (hK2 W h).bel) (hK2 W h).mA (hK2 W h).fl
      rw [hbA, e1, Bool.true_and] at h2
      have e : holdsP t1 L (wrapB ⟨#[97, 110, 100]⟩ sa [PB.mk r0 r1 r2 r3 r4 r5 r6 r7, PB.mk s0 s1 s2 s3 s4 s5 s6 s7]).pr = (hx && hy) := by
        rw [← hhx, ← hhy]
        exact holds_and t1 L _ _ _ _ _ _
      rw [e] at h2
      exact h2)
    have HOR : Hid (bO = true → ∀ W, K W → Calls Tryd.prog 12 #[.agg #[.string ⟨#[111, 114]⟩, .string ⟨#[]⟩, .bool false, .int .i64 0, .string ⟨#[]⟩, .slice (some ⟨so, 0, none⟩) 2 2], .agg #[.string t1, .string p1, .int .u64 q, .slice aA L.length cA]] W fun e w' => e = .returned (.bool (hy || hx)) ∧ Below W.heap.size W w') := Lib.hid (fun e1 W h => by
      have h2 := holds5_c (wrapB ⟨#[111, 114]⟩ so [PB.mk s0 s1 s2 s3 s4 s5 s6 s7, PB.mk r0 r1 r2 r3 r4 r5 r6 r7]) t1 p1 q aA L cA (by omega) (by omega) W (HM.out.grow (hK2 W h).bel) (hK2 W h).mO (hK2 W h).fl
      rw [hbO, e1, Bool.true_and] at h2
      have e : holdsP t1 L (wrapB ⟨#[111, 114]⟩ so [PB.mk s0 s1 s2 s3 s4 s5 s6 s7, PB.mk r0 r1 r2 r3 r4 r5 r6 r7]).pr = (hy || hx) := by
        rw [← hhx, ← hhy]
        exact holds_or t1 L _ _ _ _ _ _
      rw [e] at h2
      exact h2)
    have HX1 : Hid (bA = true → ∀ W, K W → Calls Tryd.prog 12 #[.agg #[.string r0, .string r1, .bool r2, .int .i64 r3, .string r4, .slice r5 r7.length r6], .agg #[.string t1, .string p1, .int .u64 q, .slice aA L.length cA]] W fun e w' => e = .returned (.bool hx) ∧ Below W.heap.size W w') := Lib.hid (fun e1 W h => by
      have h2 := holds5_c (PB.mk r0 r1 r2 r3 r4 r5 r6 r7) t1 p1 q aA L cA (by omega) (by omega) W (HM.out.grow (hK2 W h).bel) (hK2 W h).mX (hK2 W h).fl
      have e : mayP (PB.mk r0 r1 r2 r3 r4 r5 r6 r7).pr = true := mayP_part (hbA.trans e1 : mayP (.mk _ _ _ _ _ _) = true) (by rw [PB.prs]; exact List.mem_cons_self)
      rw [hhx, e, Bool.true_and] at h2
      exact h2)
    have HY1 : Hid (bA = true → ∀ W, K W → Calls Tryd.prog 12 #[.agg #[.string s0, .string s1, .bool s2, .int .i64 s3, .string s4, .slice s5 s7.length s6], .agg #[.string t1, .string p1, .int .u64 q, .slice aA L.length cA]] W fun e w' => e = .returned (.bool hy) ∧ Below W.heap.size W w') := Lib.hid (fun e1 W h => by
      have h2 := holds5_c (PB.mk s0 s1 s2 s3 s4 s5 s6 s7) t1 p1 q aA L cA (by omega) (by omega) W (HM.out.grow (hK2 W h).bel) (hK2 W h).mY (hK2 W h).fl
      have e : mayP (PB.mk s0 s1 s2 s3 s4 s5 s6 s7).pr = true := mayP_part (hbA.trans e1 : mayP (.mk _ _ _ _ _ _) = true) (by rw [PB.prs, PB.prs]; exact List.mem_cons_of_mem _ List.mem_cons_self)
      rw [hhy, e, Bool.true_and] at h2
      exact h2)
    have W0 := Lib.hid (hK1 _ HG.out)
    clear hbN hbA hbO hhx hhy hK1 hK2 HG hB hC hD HBC h0 h4 u1 u2 hlen
    obtain ⟨V0, hV0⟩ : ∃ v, v = wc := ⟨_, rfl⟩
    rw [← hV0] at W0 ⊢
    clear hV0
    obtain ⟨⟨b0, b1, b2, b3, b4, b5, b6⟩, ⟨c0, c1, c2, c3, c4, c5, c6⟩, ⟨d0, d1, d2, d3, d4, d5, d6, d7⟩, ⟨n0', n1', n2', n3', n4', n5', n6'⟩, ⟨o0, o1, o2, o3, o4, o5, o6⟩, ⟨q0, q1, q2, q3, q4, q5, q6⟩, dz⟩ := KB.out _ W0.out
    go_wp2_with fail
    refine (MN.out _ W0.out).mono ?_
    rintro e w1 ⟨rfl, hb⟩
    have W1 := Lib.hid (KG.out _ _ W0.out hb)
    clear hb W0
    clear dz b0 b1 b2 b3 b4 b5 b6 c0 c1 c2 c3 c4 c5 c6 d0 d1 d2 d3 d4 d5 d6 d7 n0' n1' n2' n3' n4' n5' n6' o0 o1 o2 o3 o4 o5 o6 q0 q1 q2 q3 q4 q5 q6
    obtain ⟨⟨b0, b1, b2, b3, b4, b5, b6⟩, ⟨c0, c1, c2, c3, c4, c5, c6⟩, ⟨d0, d1, d2, d3, d4, d5, d6, d7⟩, ⟨n0', n1', n2', n3', n4', n5', n6'⟩, ⟨o0, o1, o2, o3, o4, o5, o6⟩, ⟨q0, q1, q2, q3, q4, q5, q6⟩, dz⟩ := KB.out _ W1.out
    cases bN with
    | false =>
      go_wp2_with fail
      refine (HALL.out _ W1.out).mono ?_
      rintro e w8 ⟨rfl, hb⟩
      have W8 := Lib.hid (KG.out _ _ W1.out hb)
      clear hb W1
      clear dz b0 b1 b2 b3 b4 b5 b6 c0 c1 c2 c3 c4 c5 c6 d0 d1 d2 d3 d4 d5 d6 d7 n0' n1' n2' n3' n4' n5' n6' o0 o1 o2 o3 o4 o5 o6 q0 q1 q2 q3 q4 q5 q6
      obtain ⟨⟨b0, b1, b2, b3, b4, b5, b6⟩, ⟨c0, c1, c2, c3, c4, c5, c6⟩, ⟨d0, d1, d2, d3, d4, d5, d6, d7⟩, ⟨n0', n1', n2', n3', n4', n5', n6'⟩, ⟨o0, o1, o2, o3, o4, o5, o6⟩, ⟨q0, q1, q2, q3, q4, q5, q6⟩, dz⟩ := KB.out _ W8.out
      go_wp2_with fail
      refine (AW.out _ W8.out).mono ?_
      rintro e w9 ⟨rfl, hb⟩
      have W9 := Lib.hid (KG.out _ _ W8.out hb)
      clear hb W8
      clear dz b0 b1 b2 b3 b4 b5 b6 c0 c1 c2 c3 c4 c5 c6 d0 d1 d2 d3 d4 d5 d6 d7 n0' n1' n2' n3' n4' n5' n6' o0 o1 o2 o3 o4 o5 o6 q0 q1 q2 q3 q4 q5 q6
      obtain ⟨⟨b0, b1, b2, b3, b4, b5, b6⟩, ⟨c0, c1, c2, c3, c4, c5, c6⟩, ⟨d0, d1, d2, d3, d4, d5, d6, d7⟩, ⟨n0', n1', n2', n3', n4', n5', n6'⟩, ⟨o0, o1, o2, o3, o4, o5, o6⟩, ⟨q0, q1, q2, q3, q4, q5, q6⟩, dz⟩ := KB.out _ W9.out
      go_wp2_with fail
      go_ret
      exact ⟨rfl, KL.out _ W9.out⟩
    | true =>
      go_wp2_with fail
      refine (MA.out _ W1.out).mono ?_
      rintro e w2 ⟨rfl, hb⟩
      have W2 := Lib.hid (KG.out _ _ W1.out hb)
      clear hb W1
      clear dz b0 b1 b2 b3 b4 b5 b6 c0 c1 c2 c3 c4 c5 c6 d0 d1 d2 d3 d4 d5 d6 d7 n0' n1' n2' n3' n4' n5' n6' o0 o1 o2 o3 o4 o5 o6 q0 q1 q2 q3 q4 q5 q6
      obtain ⟨⟨b0, b1, b2, b3, b4, b5, b6⟩, ⟨c0, c1, c2, c3, c4, c5, c6⟩, ⟨d0, d1, d2, d3, d4, d5, d6, d7⟩, ⟨n0', n1', n2', n3', n4', n5', n6'⟩, ⟨o0, o1, o2, o3, o4, o5, o6⟩, ⟨q0, q1, q2, q3, q4, q5, q6⟩, dz⟩ := KB.out _ W2.out
      cases bA with
      | false =>
        go_wp2_with fail
        refine (HALL.out _ W2.out).mono ?_
        rintro e w8 ⟨rfl, hb⟩
        have W8 := Lib.hid (KG.out _ _ W2.out hb)
        clear hb W2
        clear dz b0 b1 b2 b3 b4 b5 b6 c0 c1 c2 c3 c4 c5 c6 d0 d1 d2 d3 d4 d5 d6 d7 n0' n1' n2' n3' n4' n5' n6' o0 o1 o2 o3 o4 o5 o6 q0 q1 q2 q3 q4 q5 q6
        obtain ⟨⟨b0, b1, b2, b3, b4, b5, b6⟩, ⟨c0, c1, c2, c3, c4, c5, c6⟩, ⟨d0, d1, d2, d3, d4, d5, d6, d7⟩, ⟨n0', n1', n2', n3', n4', n5', n6'⟩, ⟨o0, o1, o2, o3, o4, o5, o6⟩, ⟨q0, q1, q2, q3, q4, q5, q6⟩, dz⟩ := KB.out _ W8.out
        go_wp2_with fail
        refine (AW.out _ W8.out).mono ?_
        rintro e w9 ⟨rfl, hb⟩
        have W9 := Lib.hid (KG.out _ _ W8.out hb)
        clear hb W8
        clear dz b0 b1 b2 b3 b4 b5 b6 c0 c1 c2 c3 c4 c5 c6 d0 d1 d2 d3 d4 d5 d6 d7 n0' n1' n2' n3' n4' n5' n6' o0 o1 o2 o3 o4 o5 o6 q0 q1 q2 q3 q4 q5 q6
        obtain ⟨⟨b0, b1, b2, b3, b4, b5, b6⟩, ⟨c0, c1, c2, c3, c4, c5, c6⟩, ⟨d0, d1, d2, d3, d4, d5, d6, d7⟩, ⟨n0', n1', n2', n3', n4', n5', n6'⟩, ⟨o0, o1, o2, o3, o4, o5, o6⟩, ⟨q0, q1, q2, q3, q4, q5, q6⟩, dz⟩ := KB.out _ W9.out
        go_wp2_with fail
        go_ret
        exact ⟨rfl, KL.out _ W9.out⟩
      | true =>
        go_wp2_with fail
        refine (MO.out _ W2.out).mono ?_
        rintro e w3 ⟨rfl, hb⟩
        have W3 := Lib.hid (KG.out _ _ W2.out hb)
        clear hb W2
        clear dz b0 b1 b2 b3 b4 b5 b6 c0 c1 c2 c3 c4 c5 c6 d0 d1 d2 d3 d4 d5 d6 d7 n0' n1' n2' n3' n4' n5' n6' o0 o1 o2 o3 o4 o5 o6 q0 q1 q2 q3 q4 q5 q6
        obtain ⟨⟨b0, b1, b2, b3, b4, b5, b6⟩, ⟨c0, c1, c2, c3, c4, c5, c6⟩, ⟨d0, d1, d2, d3, d4, d5, d6, d7⟩, ⟨n0', n1', n2', n3', n4', n5', n6'⟩, ⟨o0, o1, o2, o3, o4, o5, o6⟩, ⟨q0, q1, q2, q3, q4, q5, q6⟩, dz⟩ := KB.out _ W3.out
        cases bO with
        | false =>
          go_wp2_with fail
          refine (HALL.out _ W3.out).mono ?_
          rintro e w8 ⟨rfl, hb⟩
          have W8 := Lib.hid (KG.out _ _ W3.out hb)
          clear hb W3
          clear dz b0 b1 b2 b3 b4 b5 b6 c0 c1 c2 c3 c4 c5 c6 d0 d1 d2 d3 d4 d5 d6 d7 n0' n1' n2' n3' n4' n5' n6' o0 o1 o2 o3 o4 o5 o6 q0 q1 q2 q3 q4 q5 q6
          obtain ⟨⟨b0, b1, b2, b3, b4, b5, b6⟩, ⟨c0, c1, c2, c3, c4, c5, c6⟩, ⟨d0, d1, d2, d3, d4, d5, d6, d7⟩, ⟨n0', n1', n2', n3', n4', n5', n6'⟩, ⟨o0, o1, o2, o3, o4, o5, o6⟩, ⟨q0, q1, q2, q3, q4, q5, q6⟩, dz⟩ := KB.out _ W8.out
          go_wp2_with fail
          refine (AW.out _ W8.out).mono ?_
          rintro e w9 ⟨rfl, hb⟩
          have W9 := Lib.hid (KG.out _ _ W8.out hb)
          clear hb W8
          clear dz b0 b1 b2 b3 b4 b5 b6 c0 c1 c2 c3 c4 c5 c6 d0 d1 d2 d3 d4 d5 d6 d7 n0' n1' n2' n3' n4' n5' n6' o0 o1 o2 o3 o4 o5 o6 q0 q1 q2 q3 q4 q5 q6
          obtain ⟨⟨b0, b1, b2, b3, b4, b5, b6⟩, ⟨c0, c1, c2, c3, c4, c5, c6⟩, ⟨d0, d1, d2, d3, d4, d5, d6, d7⟩, ⟨n0', n1', n2', n3', n4', n5', n6'⟩, ⟨o0, o1, o2, o3, o4, o5, o6⟩, ⟨q0, q1, q2, q3, q4, q5, q6⟩, dz⟩ := KB.out _ W9.out
          go_wp2_with fail
          go_ret
          exact ⟨rfl, KL.out _ W9.out⟩
        | true =>
          have HNOT2 := Lib.hid (HNOT.out trivial)
          have HAND2 := Lib.hid (HAND.out trivial)
          have HOR2 := Lib.hid (HOR.out (by trivial))
          have HX2 := Lib.hid (HX1.out trivial)
          have HY2 := Lib.hid (HY1.out trivial)
          clear HNOT HAND HOR HX1 HY1
          go_upto_region 6 with fail
          refine Tryst2.wp_region_grows [.is (.agg #[.string r0, .string r1, .bool r2, .int .i64 r3, .string r4, .slice r5 r7.length r6]), .is (.agg #[.string t1, .string p1, .int .u64 q, .slice aA L.length cA]), .is (.bool hx), .is (.agg #[.string s0, .string s1, .bool s2, .int .i64 s3, .string s4, .slice s5 s7.length s6]), .is (.agg #[.string t1, .string p1, .int .u64 q, .slice aA L.length cA]), .is (.bool hy), .is (.bool hx), .is (.bool hy)] (by kernel_rfl) (by kernel_rfl) ?obl ?fin
          case obl =>
            simp only [Tryst2.AllObl, Tryst2.dstL, Tryst2.Obl, Tryst2.depsOf, Tryst2.binds_data, Tryst2.binds_chain, Tryst2.binds_phase, Tryst2.binds_guard, Tryst2.binds_text, Tryst2.binds_gc, Bool.false_eq_true, if_false, List.filterMap_cons_some, List.filterMap_cons_none, Tryst2.depsR, Tryst2.holdR, Tryst2.tmpsOf, Op.operands, Call.operands, Tryst2.Rsp.pred, Tryst2.wantedV_none, Tryst2.wantedV_some, if_true, List.map_cons, List.map_nil, List.length_map, List.take_succ_cons, List.take_zero, List.length_cons, List.length_nil, List.getElem?_cons_zero, List.getElem?_cons_succ, Option.bind_some, id, List.getD_cons_zero, List.getD_cons_succ, Tryst2.isDst, List.filterMap_cons, List.filterMap_nil, List.toList_toArray]
            repeat' apply And.intro
            any_goals trivial
            all_goals (intro tv w' hg hold hd; (try simp at hold); obtain ⟨hcg, hfg⟩ := Tryst2.Grow.cells hg; have hsg := Tryst2.Grow.le hg)
            all_goals first | (go_simp; done) | (go_simp; rw [if_neg (by omega)]; exact ⟨.refl _, rfl⟩) | (obtain ⟨⟨g, hvg, hgg, hcell⟩, _⟩ := hd; have hcell0 := hcell 0 (by decide); simp at hcell0; go_simp; done) | (go_simp; go_at_call 12; (with_reducible refine (HX2.out _ ?_).mono ?_); (exact KG.out _ _ W3.out (Tryst2.Grow.below hg (.refl _ _))); rintro e w2 ⟨rfl, hb2⟩; exact ⟨hb2, rfl⟩) | (go_simp; go_at_call 12; (with_reducible refine (HY2.out _ ?_).mono ?_); (exact KG.out _ _ W3.out (Tryst2.Grow.below hg (.refl _ _))); rintro e w2 ⟨rfl, hb2⟩; exact ⟨hb2, rfl⟩)
          case fin =>
            intro tv w' hg hR
            simp only [Tryst2.allR, Tryst2.dstL, Tryst2.Rsp.pred, List.map_cons, List.map_nil, List.take_succ_cons, List.take_zero, List.length_cons, List.length_nil, List.tail_cons, List.toList_toArray] at hR
            obtain ⟨hcg, hfg⟩ := Tryst2.Grow.cells hg
            have hsg := Tryst2.Grow.le hg
            simp only [Tryst2.putAll, Tryst2.dstL, List.map_cons, List.map_nil, List.take_succ_cons, List.take_zero, List.length_cons, List.length_nil, List.toList_toArray, List.drop_succ_cons, List.drop_zero, Act.put, List.setIfInBounds_toArray, List.set_cons_zero, List.set_cons_succ, hR]
            have W4 := Lib.hid (KG.out _ _ W3.out (Tryst2.Grow.below hg (.refl _ _)))
            clear hg hR hcg hfg hsg W3 HX2 HY2 HALL MN MA MO
            clear dz b0 b1 b2 b3 b4 b5 b6 c0 c1 c2 c3 c4 c5 c6 d0 d1 d2 d3 d4 d5 d6 d7 n0' n1' n2' n3' n4' n5' n6' o0 o1 o2 o3 o4 o5 o6 q0 q1 q2 q3 q4 q5 q6
            obtain ⟨⟨b0, b1, b2, b3, b4, b5, b6⟩, ⟨c0, c1, c2, c3, c4, c5, c6⟩, ⟨d0, d1, d2, d3, d4, d5, d6, d7⟩, ⟨n0', n1', n2', n3', n4', n5', n6'⟩, ⟨o0, o1, o2, o3, o4, o5, o6⟩, ⟨q0, q1, q2, q3, q4, q5, q6⟩, dz⟩ := KB.out _ W4.out
            cases hx <;> cases hy
            all_goals
              go_wp2_with fail
              refine (HNOT2.out _ W4.out).mono ?_
              rintro e w5 ⟨rfl, hb⟩
              have W5 := Lib.hid (KG.out _ _ W4.out hb)
              clear hb W4
              clear dz b0 b1 b2 b3 b4 b5 b6 c0 c1 c2 c3 c4 c5 c6 d0 d1 d2 d3 d4 d5 d6 d7 n0' n1' n2' n3' n4' n5' n6' o0 o1 o2 o3 o4 o5 o6 q0 q1 q2 q3 q4 q5 q6
              obtain ⟨⟨b0, b1, b2, b3, b4, b5, b6⟩, ⟨c0, c1, c2, c3, c4, c5, c6⟩, ⟨d0, d1, d2, d3, d4, d5, d6, d7⟩, ⟨n0', n1', n2', n3', n4', n5', n6'⟩, ⟨o0, o1, o2, o3, o4, o5, o6⟩, ⟨q0, q1, q2, q3, q4, q5, q6⟩, dz⟩ := KB.out _ W5.out
              go_wp2_with fail
              refine (HAND2.out _ W5.out).mono ?_
              rintro e w6 ⟨rfl, hb⟩
              have W6 := Lib.hid (KG.out _ _ W5.out hb)
              clear hb W5
              clear dz b0 b1 b2 b3 b4 b5 b6 c0 c1 c2 c3 c4 c5 c6 d0 d1 d2 d3 d4 d5 d6 d7 n0' n1' n2' n3' n4' n5' n6' o0 o1 o2 o3 o4 o5 o6 q0 q1 q2 q3 q4 q5 q6
              obtain ⟨⟨b0, b1, b2, b3, b4, b5, b6⟩, ⟨c0, c1, c2, c3, c4, c5, c6⟩, ⟨d0, d1, d2, d3, d4, d5, d6, d7⟩, ⟨n0', n1', n2', n3', n4', n5', n6'⟩, ⟨o0, o1, o2, o3, o4, o5, o6⟩, ⟨q0, q1, q2, q3, q4, q5, q6⟩, dz⟩ := KB.out _ W6.out
              go_wp2_with fail
              refine (HOR2.out _ W6.out).mono ?_
              rintro e w7 ⟨rfl, hb⟩
              have W7 := Lib.hid (KG.out _ _ W6.out hb)
              clear hb W6
              clear dz b0 b1 b2 b3 b4 b5 b6 c0 c1 c2 c3 c4 c5 c6 d0 d1 d2 d3 d4 d5 d6 d7 n0' n1' n2' n3' n4' n5' n6' o0 o1 o2 o3 o4 o5 o6 q0 q1 q2 q3 q4 q5 q6
              obtain ⟨⟨b0, b1, b2, b3, b4, b5, b6⟩, ⟨c0, c1, c2, c3, c4, c5, c6⟩, ⟨d0, d1, d2, d3, d4, d5, d6, d7⟩, ⟨n0', n1', n2', n3', n4', n5', n6'⟩, ⟨o0, o1, o2, o3, o4, o5, o6⟩, ⟨q0, q1, q2, q3, q4, q5, q6⟩, dz⟩ := KB.out _ W7.out
              go_wp2_with fail
              refine (AW.out _ W7.out).mono ?_
              rintro e w8 ⟨rfl, hb⟩
              have W8 := Lib.hid (KG.out _ _ W7.out hb)
              clear hb W7
              clear dz b0 b1 b2 b3 b4 b5 b6 c0 c1 c2 c3 c4 c5 c6 d0 d1 d2 d3 d4 d5 d6 d7 n0' n1' n2' n3' n4' n5' n6' o0 o1 o2 o3 o4 o5 o6 q0 q1 q2 q3 q4 q5 q6
              obtain ⟨⟨b0, b1, b2, b3, b4, b5, b6⟩, ⟨c0, c1, c2, c3, c4, c5, c6⟩, ⟨d0, d1, d2, d3, d4, d5, d6, d7⟩, ⟨n0', n1', n2', n3', n4', n5', n6'⟩, ⟨o0, o1, o2, o3, o4, o5, o6⟩, ⟨q0, q1, q2, q3, q4, q5, q6⟩, dz⟩ := KB.out _ W8.out
              go_wp2_with fail
              go_ret
              exact ⟨rfl, KL.out _ W8.out⟩
end Go.Proofs.YtmmdblpoecidaaaDoor
