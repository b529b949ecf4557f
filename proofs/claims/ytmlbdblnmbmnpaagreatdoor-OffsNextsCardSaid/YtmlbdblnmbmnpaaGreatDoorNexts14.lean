/- the law OffsNexts -/
/- The law OffsNexts. -/
import Derived.Test.YtmlbdblnmbmnpaaGreatDoorProg
import Derived.WalkKit
import Derived.WalkSpells
import Derived.WalkLawsBesides
import Derived.Lib.Hide
import Derived.Deep.RegionWith
import Derived.Deep.Cut
import Derived.IntWalk
import Derived.Test.YtmlbdblnmbmnpaaGreatDoorSto14
import Derived.Test.YtmlbdblnmbmnpaaGreatDoorPuts14
import Derived.Test.YtmlbdblnmbmnpaaGreatDoorRNextP14
import Derived.Test.YtmlbdblnmbmnpaaGreatDoorFewDB14
import Derived.Test.YtmlbdblnmbmnpaaGreatDoorTopOC
import Derived.Test.YtmlbdblnmbmnpaaGreatDoorROffA
import Derived.Test.YtmlbdblnmbmnpaaGreatDoorR12
set_option linter.unusedVariables false
set_option linter.unusedSimpArgs false

namespace Go.Proofs.YtmlbdblnmbmnpaaGreatDoor
open Go.RowKit Tryst
set_option maxHeartbeats 16000000
set_option maxRecDepth 20000
theorem Strs.keepT {w w' : World} {a : Option Addr} {l : List ByteArray} (h : Strs w a l) (hb : ∀ b o, a = some ⟨b, o, none⟩ → b < w.heap.size → w'.heap[b]? = w.heap[b]?) (hz : w.heap.size ≤ w'.heap.size) : Strs w' a l := by
 intro i hi
 obtain ⟨b, o, h1, h2, h3⟩ := h i hi
 exact ⟨b, o, h1, Nat.lt_of_lt_of_le h2 hz, (World.cell?_of_block (w := w) (a := ⟨b, o + i, none⟩) (hb b o h1 h2)).trans h3⟩
theorem Row.keepT {w w' : World} {a : Option Addr} {k : Nat} {l : List (List Value)} (h : Row w a k l) (hb : ∀ b o, a = some ⟨b, o, none⟩ → b < w.heap.size → w'.heap[b]? = w.heap[b]?) (hz : w.heap.size ≤ w'.heap.size) : Row w' a k l := by
 intro i hi
 obtain ⟨b, o, h1, h2, h3⟩ := h i hi
 exact ⟨b, o, h1, Nat.lt_of_lt_of_le h2 hz, fun j hj => (World.cell?_of_block (w := w) (a := ⟨b, o + i * k + j, none⟩) (hb b o h1 h2)).trans (h3 j hj)⟩
/-- what lies in the blocks of one time stays, if they do -/
theorem DOB.keepT {base : Nat} {v w : World} {d : DB} (h : DOB base v d) (hk : ∀ b, base ≤ b → b < v.heap.size → w.heap[b]? = v.heap[b]?) (hz : v.heap.size ≤ w.heap.size) : DO w d := by
 have hp : ∀ p ∈ d.wl, PO w p ∧ nodesB p ≤ 50 := fun p hp => ⟨(h.ps p hp).1.keep (fun b hb hl => ⟨hk b hb hl, trivial⟩) hz, (h.ps p hp).2⟩
 exact ⟨h.o.hn, h.o.hg, h.o.hgs, Strs.keepT h.o.gS (fun b o e => hk b (h.ga b o e)) hz, h.o.gL, h.o.hw, ⟨Row.keepT h.o.wR.row (fun b o e => hk b (h.wa b o e)) hz, h.o.wR.sl, hp⟩, h.o.hk⟩
theorem DOB.low {base base' : Nat} {w : World} {d : DB} (h : DOB base w d) (hb : base' ≤ base) : DOB base' w d :=
 ⟨h.o, fun b o e => Nat.le_trans hb (h.ga b o e), fun b o e => Nat.le_trans hb (h.wa b o e), fun p hp => ⟨(h.ps p hp).1.grow (.refl _ _) (fun b h => Nat.le_trans hb h), (h.ps p hp).2⟩⟩
/-- what is made in a region: a definition; offsets; topics; a box -/
def DbT (lo hi : Nat) (v : Value) (w : World) : Prop := w.heap.size = hi ∧ ∃ d : DB, v = d.agg ∧ DOB lo w d
def OlT (L : List OB) (lo hi : Nat) (v : Value) (w : World) : Prop := w.heap.size = hi ∧ ∃ a c, v = .slice a L.length c ∧ OL w a c L ∧ ∀ b o, a = some ⟨b, o, none⟩ → lo ≤ b
def TsT (L : List Tp) (lo hi : Nat) (v : Value) (w : World) : Prop := w.heap.size = hi ∧ FewTO lo L v w
theorem newBox4 (cs : List Value) (T : TypeId) (w : World) : Tryst2.Grow w (w.alloc (.cells cs.toArray T)) ∧ ∃ g ds, Value.pointer (some ⟨w.heap.size, 0, none⟩) = .pointer (some ⟨g, 0, none⟩) ∧ w.heap.size ≤ g ∧ (w.alloc (.cells cs.toArray T)).heap[g]? = some (.cells ds T (0, 0)) ∧ ds.size = cs.length :=
 ⟨Tryst2.Grow.alloc (Tryst2.Grow.refl _) _, _, cs.toArray, rfl, Nat.le_refl _, by show (w.heap.push _)[w.heap.size]? = _; simp, by simp⟩
theorem allocO (ρ : Operand → Value) (o : Oper) (w : World) (ho : o.op = .alloc 31) : (execOp ρ o).run Tryz.prog w = .ok (.value (.pointer (some ⟨w.heap.size, 0, none⟩))) (w.alloc (.cells #[.string ⟨#[]⟩, .int .i64 0] 31)) := by
 unfold execOp
 rw [ho]
 kernel_rfl
/-- what is asked: a box of twelve cells -/
structure RX (w : World) (g : Nat) (nm : ByteArray) (G U : Value) (ky kd : ByteArray) (p n x : Int) (L T : Value) (tp : ByteArray) (nx : Int) : Prop where
 h : w.heap[g]? = some (.cells #[.string nm, G, U, .string ky, .string kd, .int .i64 p, .int .i64 n, .int .i64 x, L, T, .string tp, .int .i64 nx] 33 (0, 0))
structure RC (w : World) (g : Nat) (nm : ByteArray) (G U : Value) (ky kd : ByteArray) (p n x : Int) (L T : Value) (tp : ByteArray) (nx : Int) : Prop where
 lt : g < w.heap.size
 c0 : w.cell? ⟨g, 0, none⟩ = some (.string nm)
 c1 : w.cell? ⟨g, 1, none⟩ = some G
 c2 : w.cell? ⟨g, 2, none⟩ = some U
 c3 : w.cell? ⟨g, 3, none⟩ = some (.string ky)
 c4 : w.cell? ⟨g, 4, none⟩ = some (.string kd)
 c5 : w.cell? ⟨g, 5, none⟩ = some (.int .i64 p)
 c6 : w.cell? ⟨g, 6, none⟩ = some (.int .i64 n)
 c7 : w.cell? ⟨g, 7, none⟩ = some (.int .i64 x)
 c8 : w.cell? ⟨g, 8, none⟩ = some L
 c9 : w.cell? ⟨g, 9, none⟩ = some T
 c10 : w.cell? ⟨g, 10, none⟩ = some (.string tp)
 c11 : w.cell? ⟨g, 11, none⟩ = some (.int .i64 nx)
theorem RX.box {w : World} {g : Nat} {nm : ByteArray} {G U : Value} {ky kd : ByteArray} {p n x : Int} {L T : Value} {tp : ByteArray} {nx : Int} (h : RX w g nm G U ky kd p n x L T tp nx) : RC w g nm G U ky kd p n x L T tp nx := by
 have h := h.h
 have hz := (Array.getElem?_eq_some_iff.1 h).1
 constructor <;> first | exact hz | simp [World.cell?, h]
theorem RX.new (w : World) (nm : ByteArray) (G U : Value) (ky kd : ByteArray) (p n x : Int) (L T : Value) (tp : ByteArray) (nx : Int) : RX (w.alloc (.cells #[.string nm, G, U, .string ky, .string kd, .int .i64 p, .int .i64 n, .int .i64 x, L, T, .string tp, .int .i64 nx] 33)) w.heap.size nm G U ky kd p n x L T tp nx := ⟨by
 show (w.heap.push _)[w.heap.size]? = _
 simp⟩
theorem fewT_in {T tl : List TB} (h : T.map TB.tp = fewTs (tl.map TB.tp)) (hJ : ∀ t ∈ tl, -9223372036854775808 ≤ t.first ∧ t.first ≤ 9223372036854775807) : T.length ≤ 21 ∧ TIn T ∧ ∀ t ∈ T, t.name.size ≤ 60 := by
 have h0 : ∀ t ∈ T, t.name.size ≤ 60 ∧ (∀ s ∈ t.log, s.size ≤ 900) ∧ t.log.length ≤ 101 ∧ -9223372036854775808 ≤ t.first ∧ t.first ≤ 9223372036854775807 := by
  intro t ht
  have h1 : t.tp ∈ fewTs (tl.map TB.tp) := by rw [← h]; exact List.mem_map.2 ⟨t, ht, rfl⟩
  obtain ⟨u, hu, he⟩ := List.mem_map.1 h1
  obtain ⟨v, hv, rfl⟩ := List.mem_map.1 (List.mem_of_mem_take hu)
  have e1 : few60 v.name = t.name := congrArg Tp.name he
  have e2 : v.first = t.first := congrArg Tp.first he
  have e3 : (v.log.take 101).map few9 = t.log := congrArg Tp.log he
  have hb := hJ v hv
  rw [← e1, ← e2, ← e3]
  refine ⟨few60_le _, fun s hs => ?_, by simp; omega, hb⟩
  obtain ⟨s', _, rfl⟩ := List.mem_map.1 hs
  exact few9_le s'
 refine ⟨?_, fun t ht => ?_, fun t ht => (h0 t ht).1⟩
 ·
  have := congrArg List.length h
  simp [fewTs] at this; omega
 ·
  obtain ⟨r1, r2, r3, r4, r5⟩ := h0 t ht
  exact ⟨by omega, fun s hs => by have := r2 s hs; omega, by omega, r4, r5⟩
theorem offsNexts_c (y : DB) (la : Option Addr) (l : List OB) (lc : Nat) (ta : Option Addr) (tl : List TB) (tc : Nat) (o : OB) (w : World) (hM : MaxW w) (hY : DArg w y) (hF : Offs w la l) (hI : ∀ x ∈ l, OIn x) (hm : l.length ≤ 9223372036854775807) (hT : TopsA w ta tl) (hJ : TArg tl) (hn : tl.length ≤ 9223372036854775807) (hO : OIn o) :
  Calls Tryz.prog 3 #[.agg #[.string y.name, .slice y.ga y.gl.length y.gc, .slice y.wa y.wl.length y.wc, .string y.key, .string y.j.kind, .int .i64 y.j.parts, .int .i64 y.j.need, .int .i64 y.j.window, .slice la l.length lc, .slice ta tl.length tc, .string o.topic, .int .i64 o.next]] w fun e w' => e = .returned (.bool true) ∧ Below w.heap.size w w' := by
 have CD := Lib.hid (fun W (hb : Below w.heap.size w W) => fewDB_c y W (hY.grow hb))
 have CT := Lib.hid (fun W (hb : Below w.heap.size w W) => few12o_c ta tc tl hn (fun t ht => ⟨(hJ t ht).1, (hJ t ht).2.1, (hJ t ht).2.2.1⟩) W (hT.grow hb))
 have CF := Lib.hid (fun W (hb : Below w.heap.size w W) => few_ol (a := la) (c := lc) (w := W) hm (fun z hz => (hI z hz).1) (Row.grow hF hb))
 have CX := Lib.hid (fun W => few60_c o.topic hO.1 W)
 have HM := Lib.hid (fun W (hb : Below w.heap.size w W) => hM.grow hb)
 have CA := Lib.hid (fun W (hb : Below w.heap.size w W) => awake14_c W (hM.grow hb))
 have HJ := Lib.hid (fun t ht => And.intro (hJ t ht).2.2.2.1 (hJ t ht).2.2.2.2)
 have hid1 := fewOs_idem l
 have hlen := fewOs_len l
 have htl := few60_le o.topic
 clear hM hY hF hI hm hT hJ hn hO
 obtain ⟨nm, ga, gl, gc, wa, wl, wc, ky, ⟨kd, n0, n1, n2⟩⟩ := y
 obtain ⟨tp, nx⟩ := o
 unfold DB.agg at CD
 simp only at CD CX htl ⊢
 generalize fewOs l = L at CF hid1 hlen
 generalize few60 tp = tp1 at CX htl
 go_enter Tryz.func3, Tryz.ntmps3
 go_upto_region 1 with fail
 refine wp_genC (fun v => Hid (RX v w.heap.size nm (.slice ga gl.length gc) (.slice wa wl.length wc) ky kd n0 n1 n2 (.slice la l.length lc) (.slice ta tl.length tc) tp nx) ∧ Hid (Below w.heap.size w v)) ⟨RX.new _ _ _ _ _ _ _ _ _ _ _ _ _, balloc _ (.refl _ _)⟩ ?_
 rintro Y ⟨HX, HY⟩
 obtain ⟨x0, x1, x2, x3, x4, x5, x6, x7, x8, x9, x10, x11, x12⟩ := HX.out.box
 refine Tryst4.wp_region_owns [.is (.pointer (some ⟨w.heap.size, 0, none⟩)), .is (.agg #[.string nm, .slice ga gl.length gc, .slice wa wl.length wc, .string ky, .string kd, .int .i64 n0, .int .i64 n1, .int .i64 n2]), .own DbT, .is (.pointer (some ⟨w.heap.size, 8, none⟩)), .is (.slice la l.length lc), .own (OlT L), .is (.pointer (some ⟨w.heap.size, 9, none⟩)), .is (.slice ta tl.length tc), .own (TsT (tl.map TB.tp)), .is (.pointer (some ⟨w.heap.size, 10, none⟩)), .is (.agg #[.string tp, .int .i64 nx]), .box 27 8, .box 31 2, .put 11 2 27 8, .same 5, .same 8, .put 12 10 31 2] (by kernel_rfl) (by kernel_rfl) (by kernel_rfl) ?obl ?fin
 case obl =>
  simp only [Tryst4.AllObl, Tryst2.dstL, Tryst4.Obl, Tryst2.depsOf, Y00, Y01, Y02, Y03, Y04, Y05, Y06, Y07, Y08, Y09, Tryst4.depsS, Tryst2.holdR, Tryst2.tmpsOf, Op.operands, Call.operands, Tryst4.Rsp.R, Tryst4.Rsp.made, Tryst4.val, Y10, Y11, Y12, Y13, Y14, Y15, Y16, Y17, Y18, Y19, Y20, Y21, Y22, id, Y23, Y24, Tryst2.isDst, Y25, Y26, Y33]
  repeat' apply And.intro
  any_goals trivial
  all_goals (intro tv lo hi w' hg hold hd; (try simp at hold); obtain ⟨hcg, hfg⟩ := Tryst2.Grow.cells hg; have hsg := Tryst2.Grow.le hg)
  all_goals first | (go_simp; done) | (go_simp; go_at_call 9; (with_reducible refine (CD.out _ ?_).mono ?_); (exact bstep (Tryst2.Grow.below hg (.refl Y.heap.size Y)) HY.out); rintro e w2 ⟨d', rfl, ho, hb2⟩; exact ⟨hb2, rfl, d', rfl, ho⟩) | (go_simp; go_at_call 10; (with_reducible refine (CF.out _ ?_).mono ?_); (exact bstep (Tryst2.Grow.below hg (.refl Y.heap.size Y)) HY.out); rintro e w2 ⟨a', c', rfl, ho, ha, hb2⟩; exact ⟨hb2, rfl, a', c', rfl, ho, ha⟩) | (go_simp; go_at_call 11; (with_reducible refine (CT.out _ ?_).mono ?_); (exact bstep (Tryst2.Grow.below hg (.refl Y.heap.size Y)) HY.out); rintro e w2 ⟨v', rfl, ho, hb2⟩; exact ⟨hb2, rfl, ho⟩) | (rw [allocD _ _ _ rfl, Tryst2.stepV_value]; exact newBox4 _ _ _) | (rw [allocO _ _ _ rfl, Tryst2.stepV_value]; exact newBox4 _ _ _) | (obtain ⟨⟨g, cs, e1, -, -, e4, e5⟩, e6, -⟩ := hd; exact stored2 rfl e6 ⟨g, cs, e1, e4, e5⟩) | (obtain ⟨⟨g, cs, e1, -, -, e4, e5⟩, ⟨v0, -, -, d', e6, -⟩, -⟩ := hd; exact stored8 rfl e6 ⟨g, cs, e1, e4, e5⟩)
 case fin =>
  intro tv w' lo hi hg hR hL hT
  simp only [Tryst4.allT, Tryst2.dstL, Tryst4.Rsp.R, Tryst4.val, Nat.reduceAdd, Y13, Y14, Y16, Y17, Y18, Y19, Y20, Y21, Y22, id, Y27, Y33] at hR
  simp only [Y18, Y19, Nat.reduceAdd] at hL hT
  obtain ⟨hcg, hfg⟩ := Tryst2.Grow.cells hg
  have hsg := Tryst2.Grow.le hg
  simp only [Tryst2.putAll, Tryst2.dstL, Y13, Y14, Y16, Y17, Y18, Y19, Y33, Y28, Y29, Act.put, Y30, Y31, Y32, hR]
  obtain ⟨-, -, ⟨v2, s2, z2, d, e2, h2⟩, -, -, ⟨v5, s5, z5, a5, c5, e5, h5, b5⟩, -, -, ⟨v8, s8, z8, a8, c8, T, e8, t8, o8, l8⟩, -, hR10, ⟨g3, cs3, e3, l3, u3, -, -⟩, ⟨g6, cs6, e6, l6, u6, -, -⟩, ⟨g3', e3', -, -, k3⟩, -, -, ⟨g6', e6', -, -, k6⟩, -⟩ := hR
  rw [e3] at e3'
  rw [e6] at e6'
  simp only [Value.pointer.injEq, Option.some.injEq, Addr.mk.injEq, and_true] at e3' e6'
  subst e3' e6'
  simp only [e2, e5, e8, e3, e6]
  rw [e2] at k3
  rw [hR10] at k6
  have hy : w.heap.size < Y.heap.size := HX.out.box.lt
  have i3 := hL 11 (by decide)
  have i6 := hL 12 (by decide)
  have T2 := hT 2 11 (by decide) (by decide) (by decide)
  have T26 := hT 2 12 (by decide) (by decide) (by decide)
  have T53 := hT 5 11 (by decide) (by decide) (by decide)
  have T56 := hT 5 12 (by decide) (by decide) (by decide)
  have T83 := hT 8 11 (by decide) (by decide) (by decide)
  have T86 := hT 8 12 (by decide) (by decide) (by decide)
  have T36 := hT 11 12 (by decide) (by decide) (by decide)
  have hw6 : w.heap.size ≤ g6 := by omega
  have HB := Lib.hid (bstep (Tryst2.Grow.below hg (.refl Y.heap.size Y)) HY.out)
  have HK : Hid (∀ X : World, (∀ b, b ≠ g6 → X.heap[b]? = w'.heap[b]?) → w'.heap.size ≤ X.heap.size → DX X g3 d.name (.slice d.ga d.gl.length d.gc) (.slice d.wa d.wl.length d.wc) d.key d.j.kind d.j.parts d.j.need d.j.window ∧ DO X d ∧ OL X a5 c5 L ∧ Tops X a8 T) := Lib.hid (fun X hX hz => by
   refine ⟨(hX g3 (by omega)).trans k3, h2.keepT (fun b h1 h3 => (hX b (by omega)).trans (s2.block b (.inr ⟨h1, by omega⟩) h3)) (Nat.le_trans s2.size hz), ⟨⟨Row.keepT h5.r.r (fun b o e h3 => (hX b (by have := b5 b o e; omega)).trans (s5.block b (.inr ⟨b5 b o e, by omega⟩) h3)) (Nat.le_trans s5.size hz)⟩, h5.s, h5.z, h5.n⟩, ?_⟩
   have q1 : TOwn X (lo 8) (.slice a8 T.length c8) T := own_stays o8 (fun A n c hv => by
    have := World.ownsRow.lt o8 A.block (by rw [hv]; rfl)
    exact (hX _ (by omega)).trans (s8.block _ (.inr ⟨this.1, by omega⟩) this.2))
   have q2 : TLogO X (lo 8) T T.length := fun i hi hik => own_stays (l8 i hi hik) (fun A n c hv => by
    have := World.ownsRow.lt (l8 i hi hik) A.block (by rw [hv]; rfl)
    exact (hX _ (by omega)).trans (s8.block _ (.inr ⟨this.1, by omega⟩) this.2))
   exact (TOwn.tops q1 (q2.logs (Nat.le_refl _))).1)
  obtain ⟨hTn, hTI, hTs⟩ := fewT_in t8 HJ.out
  have HX6 : Hid (OX w' g6 tp nx) := Lib.hid k6
  clear hT hL T2 T26 T53 T56 T83 T86 T36 i3 i6 l3 u3 l6 u6 k3 k6 s2 z2 e2 h2 s5 z5 e5 h5 b5 s8 z8 e8 t8 o8 l8 e3 e6 hR10 hg hcg hfg hsg x0 x1 x2 x3 x4 x5 x6 x7 x8 x9 x10 x11 x12 HX HY CD CT CF HJ hy
  have HG6 : Hid (w.heap.size ≤ g6) := Lib.hid hw6
  obtain ⟨y0, y1, y2⟩ := HX6.out.box
  have f0 := HX6.out.fz 0
  go_wp2_with fail
  refine (CX.out _).mono ?_
  rintro e w2 ⟨rfl, rfl⟩
  go_upto_region 3 with fail
  obtain ⟨nm, ga, gl, gc, wa, wl, wc, ky, ⟨kd, n0, n1, n2⟩⟩ := d
  refine wp_genC (fun v => Hid (DX v g3 nm (.slice ga gl.length gc) (.slice wa wl.length wc) ky kd n0 n1 n2) ∧ Hid (OX v g6 tp1 nx) ∧ Hid (DO v ⟨nm, ga, gl, gc, wa, wl, wc, ky, ⟨kd, n0, n1, n2⟩⟩) ∧ Hid (OL v a5 c5 L) ∧ Hid (Tops v a8 T) ∧ Hid (Below w.heap.size w v)) ?_ ?_
  ·
   obtain ⟨q1, q2, q3, q4⟩ := HK.out (w'.setCell ⟨g6, 0, none⟩ (.string tp1)) (fun b hb => Below.heap_setCell _ _ _ _ hb) (by simp)
   exact ⟨q1, HX6.out.set0 tp1, q2, q3, q4, bset _ HG6.out HB.out⟩
  rintro Z ⟨HX, H6, HD, HL, HT, HBZ⟩
  have HTP := Lib.hid htl
  have HTN := Lib.hid hTn
  have HTS := Lib.hid hTs
  have HTI := Lib.hid hTI
  have HLN := Lib.hid hlen
  have hOl : ∀ z ∈ L, z.topic.size ≤ 9223372036854775807 := fun z hz => Nat.le_trans (HL.out.z z hz) (by decide)
  have C3 := Lib.hid (few_ol (a := a5) (c := c5) (l := L) (w := Z) (by omega) hOl HL.out.r.r)
  rw [hid1] at C3
  clear hid1 hOl htl hTn hTs hTI hlen HK HX6 HB f0 y0 y1 y2
  go_wp2_with fail
  refine C3.out.mono ?_
  rintro e w3 ⟨a3, c3, rfl, hL3, -, hb3⟩
  have HL3 := Lib.hid hL3
  have HG3 := Lib.hid hb3
  clear hL3 hb3 C3
  have C4 := Lib.hid (put_ol (HL.out.grow HG3.out) (N := 21) (by omega) HLN.out ⟨tp1, nx⟩ (Nat.le_trans HTP.out (by decide)) (HM.out _ (bstep HG3.out HBZ.out)))
  obtain ⟨y0, y1, y2⟩ := (H6.out.grow HG3.out).box
  go_wp2_with fail
  refine C4.out.mono ?_
  rintro e w4 ⟨a4, c4, l4, e4, o4, rfl, hp4, hl4, hL4, -, hb4⟩
  have HL4 := Lib.hid hL4
  have HG4 := Lib.hid (bstep hb4 HG3.out)
  have HL34 := Lib.hid (HL3.out.grow hb4)
  have HP4 := Lib.hid (And.intro hp4 hl4)
  clear hp4 hl4 hL4 hb4 y0 y1 y2 C4 HL3 HG3
  have C5 := Lib.hid (rput_ol (HL.out.grow HG4.out) (N := 21) (by omega) HLN.out ⟨tp1, nx⟩ (Nat.le_trans HTP.out (by decide)))
  obtain ⟨y0, y1, y2⟩ := (H6.out.grow HG4.out).box
  simp only
  go_wp2_with fail
  refine C5.out.mono ?_
  rintro e w5 ⟨a6, c6, l5, e5, o5, rfl, hp5, hl5, hL5, -, hb5⟩
  obtain ⟨rfl, rfl⟩ : o5 = o4 ∧ e5 = e4 := by
   have := hp5.symm.trans HP4.out.1
   simpa using this
  obtain rfl : l5 = l4 := hl5.trans HP4.out.2.symm
  have HL5 := Lib.hid hL5
  have HG5 := Lib.hid (bstep hb5 HG4.out)
  have HL35 := Lib.hid (HL34.out.grow hb5)
  have HL45 := Lib.hid (HL4.out.grow hb5)
  clear hp5 hl5 hL5 hb5 y0 y1 y2 C5 HL34 HG4 HL4 HP4
  have C6 := Lib.hid (fun W (hb : Below Z.heap.size Z W) => onext_c ⟨nm, ga, gl, gc, wa, wl, wc, ky, ⟨kd, n0, n1, n2⟩⟩ a5 c5 L a8 c8 T (by have := HLN.out; omega) (fun x hx => Nat.le_trans (HL.out.z x hx) (by decide)) (by have := HTN.out; omega) HTI.out (fun t ht => Nat.le_trans (HTS.out t ht) (by decide)) W (HM.out _ (bstep hb HBZ.out)) (HD.out.grow hb) (Row.grow HL.out.r.r hb) ((Tops.a HT.out).grow hb))
  have C7 := Lib.hid (fun W (hb : Below Z.heap.size Z W) => ronext_c ⟨nm, ga, gl, gc, wa, wl, wc, ky, ⟨kd, n0, n1, n2⟩⟩ a5 c5 L a8 c8 T (by have := HLN.out; omega) (fun x hx => Nat.le_trans (HL.out.z x hx) (by decide)) (by have := HTN.out; omega) HTI.out (fun t ht => Nat.le_trans (HTS.out t ht) (by decide)) W (HD.out.grow hb) (Row.grow HL.out.r.r hb) ((Tops.a HT.out).grow hb))
  unfold DB.agg at C6 C7
  simp only at C6 C7
  generalize nextV ⟨nm, ga, gl, gc, wa, wl, wc, ky, ⟨kd, n0, n1, n2⟩⟩ L (T.map TB.tp) = nv at C6 C7
  obtain ⟨nt, nn, ne⟩ := nv
  simp only at C6 C7
  obtain ⟨x0, x1, x2, x3, x4, x5, x6, x7, x8⟩ := (HX.out.grow HG5.out).box
  simp only
  go_wp2_with fail
  refine (C6.out _ HG5.out).mono ?_
  rintro e w6 ⟨rfl, hb6⟩
  have HG6b := Lib.hid (bstep hb6 HG5.out)
  have HL6 := Lib.hid (HL5.out.grow hb6)
  have HL36 := Lib.hid (HL35.out.grow hb6)
  have HL46 := Lib.hid (HL45.out.grow hb6)
  clear hb6 C6 HG5 HL5 HL35 HL45 x0 x1 x2 x3 x4 x5 x6 x7 x8
  obtain ⟨x0, x1, x2, x3, x4, x5, x6, x7, x8⟩ := (HX.out.grow HG6b.out).box
  go_wp2_with fail
  refine (C7.out _ HG6b.out).mono ?_
  rintro e w7 ⟨rfl, hb7⟩
  have HG7 := Lib.hid (bstep hb7 HG6b.out)
  have HL7 := Lib.hid (HL6.out.grow hb7)
  have HL37 := Lib.hid (HL36.out.grow hb7)
  have HL47 := Lib.hid (HL46.out.grow hb7)
  clear hb7 C7 HG6b HL6 HL36 HL46 x0 x1 x2 x3 x4 x5 x6 x7 x8
  have HLL := Lib.hid (HL.out.grow HG7.out)
  have HB7 := Lib.hid (bstep HG7.out HBZ.out)
  have S1 := Lib.hid (fun W (hb : Below w7.heap.size w7 W) => osame_c a4 a6 c4 c6 _ _ (Nat.le_trans HL47.out.n (by decide)) (Nat.le_trans HL7.out.n (by decide)) W (Row.grow HL47.out.r.r hb) (Row.grow HL7.out.r.r hb))
  have S2 := Lib.hid (fun W (hb : Below w7.heap.size w7 W) => osame_c a5 a3 c5 c3 _ _ (Nat.le_trans HLL.out.n (by decide)) (Nat.le_trans HL37.out.n (by decide)) W (Row.grow HLL.out.r.r hb) (Row.grow HL37.out.r.r hb))
  have G1 := Lib.hid (fun W (hb : Below w7.heap.size w7 W) => oget_c tp1 a5 c5 _ (Nat.le_trans HLL.out.n (by decide)) W (Row.grow HLL.out.r.r hb))
  have G2 := Lib.hid (fun W (hb : Below w7.heap.size w7 W) => roget_c tp1 a5 c5 _ (Nat.le_trans HLL.out.n (by decide)) W (Row.grow HLL.out.r.r hb))
  have K1 := Lib.hid (fun W (hb : Below w7.heap.size w7 W) => ocheck_c a5 c5 _ (Nat.le_trans HLL.out.n (by decide)) (fun x hx => Nat.le_trans (HLL.out.z x hx) (by decide)) W (HM.out _ (bstep hb HB7.out)) (Row.grow HLL.out.r.r hb))
  have K2 := Lib.hid (fun W (hb : Below w7.heap.size w7 W) => rocheck_c a5 c5 _ (Nat.le_trans HLL.out.n (by decide)) (fun x hx => Nat.le_trans (HLL.out.z x hx) (by decide)) W (Row.grow HLL.out.r.r hb))
  have CA9 := Lib.hid (fun W (hb : Below w7.heap.size w7 W) => CA.out W (bstep hb HB7.out))
  rw [sameO_self] at S1 S2
  have H67 := Lib.hid (H6.out.grow HG7.out)
  clear CA HM HLL HL7 HL37 HL47 HG7 HL HT HD H6 HX HBZ CX HLN HTI HTS HTN HTP
  generalize getO L tp1 = gg at G1 G2
  generalize checkO L = cb at K1 K2
  obtain ⟨ec, hec⟩ : ∃ ec, errO cb = ec := ⟨_, rfl⟩
  have hcb : (ec == 0) = cb := by subst hec; cases cb <;> rfl
  rw [hec] at K1
  clear hec
  obtain ⟨y0, y1, y2⟩ := H67.out.box
  go_upto_region 8 with fail
  refine Tryst2.wp_region_grows [.is (.slice a4 l5.length c4), .is (.slice a6 l5.length c6), .is (.bool true), .is (.bool true), .is (.int .i64 e5), .is (.int .i64 e5), .is (.bool true), .is (.bool true), .is (.bool true), .is (.slice a5 L.length c5), .is (.pointer (some ⟨g6, 0, none⟩)), .is (.string tp1), .is (.int .i64 gg), .is (.slice a5 L.length c5), .is (.pointer (some ⟨g6, 0, none⟩)), .is (.string tp1), .is (.int .i64 gg), .is (.bool true), .is (.bool true), .is (.bool true), .is (.slice a5 L.length c5), .is (.int .i64 ec), .is (.bool cb), .is (.slice a5 L.length c5), .is (.bool cb), .is (.bool true), .is (.bool true), .is (.bool true), .is (.string nt), .is (.string nt), .is (.bool true), .is (.bool true), .is (.bool true), .is (.int .i64 nn), .is (.int .i64 nn), .is (.bool true), .is (.bool true), .is (.bool true), .is (.int .i64 ne), .is (.int .i64 ne), .is (.bool true), .is (.bool true), .is (.bool true), .is (.slice a5 L.length c5), .is (.slice a3 L.length c3), .is (.bool true), .is (.bool true), .is (.bool true), .is (.bool true), .is (.bool true)] (by kernel_rfl) (by kernel_rfl) ?obl ?fin
  case obl =>
   simp only [Tryst2.AllObl, Tryst2.dstL, Tryst2.Obl, Tryst2.depsOf, Y00, Y01, Y02, Y03, Y04, Y05, Y06, Y07, Y08, Y09, Tryst2.depsR, Tryst2.holdR, Tryst2.tmpsOf, Op.operands, Call.operands, Tryst2.Rsp.pred, Y10, Y11, Y12, Y13, Y14, Y15, Y16, Y17, Y18, Y19, Y20, Y21, Y22, id, Y23, Y24, Tryst2.isDst, Y25, Y26, Y33]
   repeat' apply And.intro
   any_goals trivial
   all_goals (intro tv w' hg hold hd; (try simp at hold); obtain ⟨hcg, hfg⟩ := Tryst2.Grow.cells hg; have hsg := Tryst2.Grow.le hg)
   all_goals first | (go_simp; done) | (go_simp; rw [if_neg (by omega)]; exact ⟨.refl _, rfl⟩) | (obtain ⟨⟨g, hvg, hgg, hcell⟩, _⟩ := hd; have hcell0 := hcell 0 (by decide); simp at hcell0; go_simp; done) | (go_simp; go_at_call 17; (first | (with_reducible refine (S1.out _ ?_).mono ?_) | (with_reducible refine (S2.out _ ?_).mono ?_)); (exact Tryst2.Grow.below hg (.refl _ _)); rintro e w9 ⟨rfl, hb9⟩; exact ⟨hb9, rfl⟩) | (go_simp; go_at_call 18; (with_reducible refine (G1.out _ ?_).mono ?_); (exact Tryst2.Grow.below hg (.refl _ _)); rintro e w9 ⟨rfl, hb9⟩; exact ⟨hb9, rfl⟩) | (go_simp; go_at_call 19; (with_reducible refine (G2.out _ ?_).mono ?_); (exact Tryst2.Grow.below hg (.refl _ _)); rintro e w9 ⟨rfl, hb9⟩; exact ⟨hb9, rfl⟩) | (go_simp; go_at_call 20; (with_reducible refine (K1.out _ ?_).mono ?_); (exact Tryst2.Grow.below hg (.refl _ _)); rintro e w9 ⟨rfl, hb9⟩; exact ⟨hb9, rfl⟩) | (go_simp; go_at_call 21; (with_reducible refine (K2.out _ ?_).mono ?_); (exact Tryst2.Grow.below hg (.refl _ _)); rintro e w9 ⟨rfl, hb9⟩; exact ⟨hb9, rfl⟩) | (go_simp; go_at_call 22; (with_reducible refine (CA9.out _ ?_).mono ?_); (exact Tryst2.Grow.below hg (.refl _ _)); rintro e w9 ⟨rfl, hb9⟩; exact ⟨hb9, rfl⟩)
  case fin =>
   intro tv w' hg hR
   simp only [Tryst2.allR, Tryst2.dstL, Tryst2.Rsp.pred, Y13, Y14, Y16, Y17, Y18, Y19, Y27, Y33] at hR
   obtain ⟨hcg, hfg⟩ := Tryst2.Grow.cells hg
   have hsg := Tryst2.Grow.le hg
   simp only [Tryst2.putAll, Tryst2.dstL, Y13, Y14, Y16, Y17, Y18, Y19, Y33, Y28, Y29, Act.put, Y30, Y31, Y32, hR]
   have HB10 := Lib.hid (bstep (Tryst2.Grow.below hg (.refl _ _)) HB7.out)
   clear hg hR hcg hfg hsg
   go_wp2_with fail
   go_ret
   exact ⟨rfl, HB10.out⟩
end Go.Proofs.YtmlbdblnmbmnpaaGreatDoor
