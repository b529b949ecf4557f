/- the law OffsWants -/
/- The law OffsWants. -/
import Derived.Test.YtmlbdblnmbmnpaaGreatDoorProg
import Derived.WalkKit
import Derived.WalkSpells
import Derived.WalkLawsBesides
import Derived.Lib.Hide
import Derived.Deep.RegionWith
import Derived.Deep.Cut
import Derived.IntWalk
import Derived.Test.YtmlbdblnmbmnpaaGreatDoorDrawS
import Derived.Test.YtmlbdblnmbmnpaaGreatDoorKeyP14
import Derived.Test.YtmlbdblnmbmnpaaGreatDoorRPartP14
import Derived.Test.YtmlbdblnmbmnpaaGreatDoorSamE14
import Derived.Test.YtmlbdblnmbmnpaaGreatDoorFewDB14
import Derived.Test.YtmlbdblnmbmnpaaGreatDoorAw14
import Derived.Test.YtmlbdblnmbmnpaaGreatDoorOpen14
set_option linter.unusedVariables false
set_option linter.unusedSimpArgs false

namespace Go.Proofs.YtmlbdblnmbmnpaaGreatDoor
open Go.RowKit Tryst
set_option maxHeartbeats 16000000
set_option maxRecDepth 20000
theorem Strs.keepW {w w' : World} {a : Option Addr} {l : List ByteArray} (h : Strs w a l) (hb : ∀ b o, a = some ⟨b, o, none⟩ → b < w.heap.size → w'.heap[b]? = w.heap[b]?) (hz : w.heap.size ≤ w'.heap.size) : Strs w' a l := by
 intro i hi
 obtain ⟨b, o, h1, h2, h3⟩ := h i hi
 exact ⟨b, o, h1, Nat.lt_of_lt_of_le h2 hz, (World.cell?_of_block (w := w) (a := ⟨b, o + i, none⟩) (hb b o h1 h2)).trans h3⟩
theorem Row.keepW {w w' : World} {a : Option Addr} {k : Nat} {l : List (List Value)} (h : Row w a k l) (hb : ∀ b o, a = some ⟨b, o, none⟩ → b < w.heap.size → w'.heap[b]? = w.heap[b]?) (hz : w.heap.size ≤ w'.heap.size) : Row w' a k l := by
 intro i hi
 obtain ⟨b, o, h1, h2, h3⟩ := h i hi
 exact ⟨b, o, h1, Nat.lt_of_lt_of_le h2 hz, fun j hj => (World.cell?_of_block (w := w) (a := ⟨b, o + i * k + j, none⟩) (hb b o h1 h2)).trans (h3 j hj)⟩
theorem Flds.keepW {w w' : World} {a : Option Addr} {l : List FB} (h : Flds w a l) (hb : ∀ b o, a = some ⟨b, o, none⟩ → b < w.heap.size → w'.heap[b]? = w.heap[b]?) (hz : w.heap.size ≤ w'.heap.size) : Flds w' a l := by
 intro i hi
 obtain ⟨b, o, h1, h2, h3⟩ := h i hi
 have hc : ∀ j, w'.cell? ⟨b, j, none⟩ = w.cell? ⟨b, j, none⟩ := fun j => World.cell?_of_block (w := w) (a := ⟨b, j, none⟩) (hb b o h1 h2)
 obtain ⟨k0, k1, k2, k3⟩ := h3
 exact ⟨b, o, h1, Nat.lt_of_lt_of_le h2 hz, ⟨(hc _).trans k0, (hc _).trans k1, (hc _).trans k2, (hc _).trans k3⟩⟩
/-- what lies in the blocks of one time stays, if they do -/
theorem DOB.keepW {base : Nat} {v w : World} {d : DB} (h : DOB base v d) (hk : ∀ b, base ≤ b → b < v.heap.size → w.heap[b]? = v.heap[b]?) (hz : v.heap.size ≤ w.heap.size) : DO w d := by
 have hp : ∀ p ∈ d.wl, PO w p ∧ nodesB p ≤ 50 := fun p hp => ⟨(h.ps p hp).1.keep (fun b hb hl => ⟨hk b hb hl, trivial⟩) hz, (h.ps p hp).2⟩
 exact ⟨h.o.hn, h.o.hg, h.o.hgs, Strs.keepW h.o.gS (fun b o e => hk b (h.ga b o e)) hz, h.o.gL, h.o.hw, ⟨Row.keepW h.o.wR.row (fun b o e => hk b (h.wa b o e)) hz, h.o.wR.sl, hp⟩, h.o.hk⟩
def DbW (lo hi : Nat) (v : Value) (w : World) : Prop := w.heap.size = hi ∧ ∃ d : DB, v = d.agg ∧ DOB lo w d
def EvW (t p : ByteArray) (q : Int) (L : List FB) (lo hi : Nat) (v : Value) (w : World) : Prop := w.heap.size = hi ∧ ∃ a c, v = .agg #[.string t, .string p, .int .u64 q, .slice a L.length c] ∧ Flds w a L ∧ ∀ b o, a = some ⟨b, o, none⟩ → lo ≤ b
theorem EvW.of {w w' : World} {t p : ByteArray} {q : Int} {l : List FB} {a : Option Addr} {c : Nat} (h : FOwn 96 w' w.heap.size (.slice a l.length c) l) (hb : Below w.heap.size w w') : Tryst2.Grow w w' ∧ EvW t p q l w.heap.size w'.heap.size (.agg #[.string t, .string p, .int .u64 q, .slice a l.length c]) w' := by
 obtain ⟨a', c', e, h1, h2, _, h3⟩ := h.flds
 simp only [Value.slice.injEq, true_and] at e
 obtain ⟨rfl, rfl⟩ := e
 exact ⟨hb, rfl, a, c, rfl, h1, fun b o e => (h2 b o e).1⟩
theorem newBoxW (cs : List Value) (T : TypeId) (w : World) : Tryst2.Grow w (w.alloc (.cells cs.toArray T)) ∧ ∃ g ds, Value.pointer (some ⟨w.heap.size, 0, none⟩) = .pointer (some ⟨g, 0, none⟩) ∧ w.heap.size ≤ g ∧ (w.alloc (.cells cs.toArray T)).heap[g]? = some (.cells ds T (0, 0)) ∧ ds.size = cs.length :=
 ⟨Tryst2.Grow.alloc (Tryst2.Grow.refl _) _, _, cs.toArray, rfl, Nat.le_refl _, by show (w.heap.push _)[w.heap.size]? = _; simp, by simp⟩
theorem allocE (ρ : Operand → Value) (o : Oper) (w : World) (ho : o.op = .alloc 63) : (execOp ρ o).run Tryz.prog w = .ok (.value (.pointer (some ⟨w.heap.size, 0, none⟩))) (w.alloc (.cells #[.string ⟨#[]⟩, .string ⟨#[]⟩, .int .u64 0, .slice none 0 0] 63)) := by
 unfold execOp
 rw [ho]
 kernel_rfl
def EW4 (w : World) (g : Nat) (t p : ByteArray) (q : Int) (u : Value) : World := (((w.setCell ⟨g, 0, none⟩ (.string t)).setCell ⟨g, 1, none⟩ (.string p)).setCell ⟨g, 2, none⟩ (.int .u64 q)).setCell ⟨g, 3, none⟩ u
theorem stored4 {tv : Nat → Value} {o : Oper} {P s : Nat} {W : World} {t p : ByteArray} {q : Int} {a : Option Addr} {n c : Nat} (ho : o.op = .store 63 (.tmp P) (.tmp s)) (hs : tv s = .agg #[.string t, .string p, .int .u64 q, .slice a n c])
  (hb : ∃ (g : Nat) (cs : Array Value), tv P = .pointer (some ⟨g, 0, none⟩) ∧ W.heap[g]? = some (.cells cs 63 (0, 0)) ∧ cs.size = 4) :
  Tryst2.stepV Tryz.prog (fun v w'' => ∀ g : Nat, tv P = .pointer (some ⟨g, 0, none⟩) → Tryst4.Only g W w'' ∧ w''.heap[g]? = some (.cells (Tryst4.cellsOf (tv s)).toArray 63 (0, 0)) ∧ (Tryst4.cellsOf (tv s)).length = 4) ((execOp (Tryst2.evOf tv) o).run Tryz.prog W) := by
 obtain ⟨g, cs, hp, hg, hc⟩ := hb
 have e : (execOp (Tryst2.evOf tv) o).run Tryz.prog W = .ok .skip (EW4 W g t p q (.slice a n c)) := by
  obtain ⟨⟨u0, c0⟩, z0⟩ := cells_of hg hc (j := 0) (by decide)
  obtain ⟨⟨u1, c1⟩, z1⟩ := cells_of hg hc (j := 1) (by decide)
  obtain ⟨⟨u2, c2⟩, z2⟩ := cells_of hg hc (j := 2) (by decide)
  obtain ⟨⟨u3, c3⟩, z3⟩ := cells_of hg hc (j := 3) (by decide)
  have hlt := (Array.getElem?_eq_some_iff.1 hg).1
  unfold execOp EW4
  rw [ho]
  clear hg hc
  go_simp
 rw [e, Tryst2.stepV_skip]
 intro g' hg'
 rw [hp] at hg'
 simp only [Value.pointer.injEq, Option.some.injEq, Addr.mk.injEq, and_true] at hg'
 subst hg'
 rw [hs]
 obtain ⟨l⟩ := cs
 match l, hc with
 | [a0, a1, a2, a3], _ =>
  refine ⟨⟨rfl, rfl, rfl, by unfold EW4; simp, fun b hb => ?_⟩, ?_, rfl⟩
  ·
   unfold EW4
   rw [Below.heap_setCell _ _ _ _ hb, Below.heap_setCell _ _ _ _ hb, Below.heap_setCell _ _ _ _ hb, Below.heap_setCell _ _ _ _ hb]
  ·
   unfold EW4 Tryst4.cellsOf
   simp [World.setCell, Array.getElem?_modify, hg]
/-- what is asked: a box of twenty-one cells -/
def AX (w : World) (g : Nat) (cs : List Value) : Prop := w.heap[g]? = some (.cells cs.toArray 65 (0, 0))
theorem AX.new (w : World) (cs : List Value) : AX (w.alloc (.cells cs.toArray 65)) w.heap.size cs := by
 show (w.heap.push _)[w.heap.size]? = _
 simp
theorem AX.lt {w : World} {g : Nat} {cs : List Value} (h : AX w g cs) : g < w.heap.size := (Array.getElem?_eq_some_iff.1 h).1
theorem AX.cell {w : World} {g : Nat} {cs : List Value} (h : AX w g cs) (j : Nat) {u : Value} (hu : cs[j]? = some u) : w.cell? ⟨g, j, none⟩ = some u := by
 unfold AX at h
 simp [World.cell?, h, hu]
theorem offsWants_c (y z : DB) (t p : ByteArray) (q : Int) (a : Option Addr) (l : List FB) (c : Nat) (s : ByteArray) (ht : t.size ≤ 9223372036854775807) (hp : p.size ≤ 9223372036854775807) (h0 : 0 ≤ q) (h4 : q ≤ 18446744073709551615) (hI : FIn l) (hl : l.length ≤ 9223372036854775807) (hs : s.size ≤ 9223372036854775807) (w : World) (hM : MaxW w) (hY : DArg w y) (hZ : DArg w z) (hF : Flds w a l) :
  Calls Tryz.prog 8 #[.agg #[.string y.name, .slice y.ga y.gl.length y.gc, .slice y.wa y.wl.length y.wc, .string y.key, .string y.j.kind, .int .i64 y.j.parts, .int .i64 y.j.need, .int .i64 y.j.window, .string z.name, .slice z.ga z.gl.length z.gc, .slice z.wa z.wl.length z.wc, .string z.key, .string z.j.kind, .int .i64 z.j.parts, .int .i64 z.j.need, .int .i64 z.j.window, .string t, .string p, .int .u64 q, .slice a l.length c, .string s]] w fun e w' => e = .returned (.bool true) ∧ Below w.heap.size w w' := by
 obtain ⟨hO, hO2, hlen⟩ := few_ok hI
 have CD := Lib.hid (fun W (hb : Below w.heap.size w W) => fewDB_c y W (hY.grow hb))
 have CZ := Lib.hid (fun W (hb : Below w.heap.size w W) => fewDB_c z W (hZ.grow hb))
 have CE := Lib.hid (fun W (hb : Below w.heap.size w W) => efewO_c t p q a c l hl ht hp (few_in hI) W (hF.grow hb))
 have CX := Lib.hid (fun W => few60_c s hs W)
 have HM := Lib.hid (fun W (hb : Below w.heap.size w W) => hM.grow hb)
 have CA := Lib.hid (fun W (hb : Below w.heap.size w W) => awake14_c W (hM.grow hb))
 have u1 := few60_le t
 have u2 := few60_le p
 have u3 := few60_le s
 clear hF hM hI hO hO2 hl ht hp hY hZ hs
 revert CE hlen u1 u2 CX u3
 generalize few60 t = t1
 generalize few60 p = p1
 generalize few60 s = s1
 generalize fewL l = L
 intro hlen CE CX u1 u2 u3
 obtain ⟨nm, ga, gl, gc, wa, wl, wc, ky, ⟨kd, n0, n1, n2⟩⟩ := y
 obtain ⟨nm', ga', gl', gc', wa', wl', wc', ky', ⟨kd', m0, m1, m2⟩⟩ := z
 unfold DB.agg at CD CZ
 simp only at CD CZ ⊢
 go_enter Tryz.func8, Tryz.ntmps8
 go_upto_region 1 with fail
 refine wp_genC (fun v => Hid (AX v w.heap.size [.string nm, .slice ga gl.length gc, .slice wa wl.length wc, .string ky, .string kd, .int .i64 n0, .int .i64 n1, .int .i64 n2, .string nm', .slice ga' gl'.length gc', .slice wa' wl'.length wc', .string ky', .string kd', .int .i64 m0, .int .i64 m1, .int .i64 m2, .string t, .string p, .int .u64 q, .slice a l.length c, .string s]) ∧ Hid (Below w.heap.size w v)) ⟨AX.new _ _, balloc _ (.refl _ _)⟩ ?_
 rintro Y ⟨HX, HY⟩
 have x0 := HX.out.lt
 have x1 := HX.out.cell 0 rfl
 have x2 := HX.out.cell 1 rfl
 have x3 := HX.out.cell 2 rfl
 have x4 := HX.out.cell 3 rfl
 have x5 := HX.out.cell 4 rfl
 have x6 := HX.out.cell 5 rfl
 have x7 := HX.out.cell 6 rfl
 have x8 := HX.out.cell 7 rfl
 have x9 := HX.out.cell 8 rfl
 have x10 := HX.out.cell 9 rfl
 have x11 := HX.out.cell 10 rfl
 have x12 := HX.out.cell 11 rfl
 have x13 := HX.out.cell 12 rfl
 have x14 := HX.out.cell 13 rfl
 have x15 := HX.out.cell 14 rfl
 have x16 := HX.out.cell 15 rfl
 have x17 := HX.out.cell 16 rfl
 have x18 := HX.out.cell 17 rfl
 have x19 := HX.out.cell 18 rfl
 have x20 := HX.out.cell 19 rfl
 have x21 := HX.out.cell 20 rfl
 refine Tryst4.wp_region_owns [.is (.pointer (some ⟨w.heap.size, 0, none⟩)), .is (.agg #[.string nm, .slice ga gl.length gc, .slice wa wl.length wc, .string ky, .string kd, .int .i64 n0, .int .i64 n1, .int .i64 n2]), .own DbW, .is (.pointer (some ⟨w.heap.size, 8, none⟩)), .is (.agg #[.string nm', .slice ga' gl'.length gc', .slice wa' wl'.length wc', .string ky', .string kd', .int .i64 m0, .int .i64 m1, .int .i64 m2]), .own DbW, .is (.pointer (some ⟨w.heap.size, 16, none⟩)), .is (.agg #[.string t, .string p, .int .u64 q, .slice a l.length c]), .own (EvW t1 p1 q L), .is (.pointer (some ⟨w.heap.size, 20, none⟩)), .is (.string s), .is (.string s1), .box 27 8, .box 27 8, .box 63 4, .put 12 2 27 8, .put 13 5 27 8, .put 14 8 63 4, .is (.string s1)] (by kernel_rfl) (by kernel_rfl) (by kernel_rfl) ?obl ?fin
 case obl =>
  simp only [Tryst4.AllObl, Tryst4.Obl, Tryst4.depsS, Tryst4.Rsp.R, Tryst4.Rsp.made, Tryst4.val, YL, YO, Op.operands, Call.operands]
  repeat' apply And.intro
  any_goals trivial
  all_goals (intro tv lo hi w' hg hold hd; (try simp at hold); obtain ⟨hcg, hfg, hsg⟩ := YG hg)
  all_goals first | (go_simp; done) | (go_simp; go_at_call 9; (first | (with_reducible refine (CD.out _ ?_).mono ?_) | (with_reducible refine (CZ.out _ ?_).mono ?_)); (exact bstep (Tryst2.Grow.below hg (.refl Y.heap.size Y)) HY.out); rintro e w2 ⟨d', rfl, ho, hb2⟩; exact ⟨hb2, rfl, d', rfl, ho⟩) | (go_simp; go_at_call 26; (with_reducible refine (CE.out _ ?_).mono ?_); (exact bstep (Tryst2.Grow.below hg (.refl Y.heap.size Y)) HY.out); rintro e w2 ⟨a', c', rfl, ho, hb2⟩; exact EvW.of ho hb2) | (go_simp; go_at_call 12; (with_reducible refine (CX.out _).mono ?_); rintro e w2 ⟨rfl, rfl⟩; exact ⟨Tryst2.Grow.refl _, rfl⟩) | (rw [allocD _ _ _ rfl, Tryst2.stepV_value]; exact newBoxW _ _ _) | (rw [allocE _ _ _ rfl, Tryst2.stepV_value]; exact newBoxW _ _ _) | (obtain ⟨⟨g, cs, e1, -, -, e4, e5⟩, ⟨v0, -, -, d', e6, -⟩, -⟩ := hd; exact stored8 rfl e6 ⟨g, cs, e1, e4, e5⟩) | (obtain ⟨⟨g, cs, e1, -, -, e4, e5⟩, ⟨v0, -, -, a', c', e6, -, -⟩, -⟩ := hd; exact stored4 rfl e6 ⟨g, cs, e1, e4, e5⟩)
 case fin =>
  intro tv w' lo hi hg hR hL hT
  simp only [Tryst4.allT, Tryst4.Rsp.R, Tryst4.val, Nat.reduceAdd, YL, YO] at hR
  simp only [YL, Nat.reduceAdd] at hL hT
  obtain ⟨hcg, hfg, hsg⟩ := YG hg
  simp only [YP, YL, Act.put, hR]
  obtain ⟨-, -, ⟨v2, s2, z2, d, e2, h2⟩, -, -, ⟨v5, s5, z5, o, e5, h5⟩, -, -, ⟨v8, s8, z8, a8, c8, e8, h8, b8⟩, -, -, -, ⟨g3, cs3, e3, l3, r3, -, -⟩, ⟨g4, cs4, e4, l4, r4, -, -⟩, ⟨g5, cs5, e9, l5, r5, -, -⟩, ⟨g3', e3', -, -, k3⟩, ⟨g4', e4', -, -, k4⟩, ⟨g5', e9', -, -, k5⟩, -⟩ := hR
  rw [e3] at e3'
  rw [e4] at e4'
  rw [e9] at e9'
  simp only [Value.pointer.injEq, Option.some.injEq, Addr.mk.injEq, and_true] at e3' e4' e9'
  subst e3' e4' e9'
  simp only [e2, e5, e8, e3, e4, e9]
  rw [e2] at k3
  rw [e5] at k4
  rw [e8] at k5
  have hy : w.heap.size < Y.heap.size := x0
  have i3 := hL 12 (by decide)
  have T23 := hT 2 12 (by decide) (by decide) (by decide)
  have T24 := hT 2 13 (by decide) (by decide) (by decide)
  have T25 := hT 2 14 (by decide) (by decide) (by decide)
  have HB := Lib.hid (bstep (Tryst2.Grow.below hg (.refl Y.heap.size Y)) HY.out)
  have HD : Hid (DO w' d) := Lib.hid (h2.keepW (fun b h1 h3 => s2.block b (.inr ⟨h1, by omega⟩) h3) s2.size)
  have HO : Hid (DO w' o) := Lib.hid (h5.keepW (fun b h1 h3 => s5.block b (.inr ⟨h1, by omega⟩) h3) s5.size)
  have HF : Hid (Flds w' a8 L) := Lib.hid (Flds.keepW h8 (fun b o e h3 => s8.block b (.inr ⟨b8 b o e, by omega⟩) h3) s8.size)
  have HX3 : Hid (DX w' g3 d.name (.slice d.ga d.gl.length d.gc) (.slice d.wa d.wl.length d.wc) d.key d.j.kind d.j.parts d.j.need d.j.window) := Lib.hid k3
  have HX4 : Hid (DX w' g4 o.name (.slice o.ga o.gl.length o.gc) (.slice o.wa o.wl.length o.wc) o.key o.j.kind o.j.parts o.j.need o.j.window) := Lib.hid k4
  have HX5 : Hid (EX w' g5 t1 p1 q (.slice a8 L.length c8)) := Lib.hid k5
  clear hT hL T23 T24 T25 i3 k3 k4 k5 s2 z2 e2 h2 s5 z5 e5 h5 s8 z8 e8 h8 b8 e3 e4 e9 l3 r3 l4 r4 l5 r5 hg hcg hfg hsg hy HX HY CD CZ CE CX x0 x1 x2 x3 x4 x5 x6 x7 x8 x9 x10 x11 x12 x13 x14 x15 x16 x17 x18 x19 x20 x21
  have HLN := Lib.hid hlen
  have HU1 := Lib.hid u1
  have HU3 := Lib.hid u3
  clear hlen u1 u2 u3
  obtain ⟨nm, ga, gl, gc, wa, wl, wc, ky, ⟨kd, n0, n1, n2⟩⟩ := d
  obtain ⟨nm', ga', gl', gc', wa', wl', wc', ky', ⟨kd', m0, m1, m2⟩⟩ := o
  unfold DB.agg
  simp only at HX3 HX4 ⊢
  have HMW := Lib.hid (fun W (hb : Below w'.heap.size w' W) => HM.out W (bstep hb HB.out))
  have CK := Lib.hid (fun W (hb : Below w'.heap.size w' W) => dKey_c ⟨nm, ga, gl, gc, wa, wl, wc, ky, ⟨kd, n0, n1, n2⟩⟩ t1 p1 q a8 L c8 (by have := HLN.out; omega) W (HMW.out W hb) (HD.out.grow hb) (HF.out.grow hb))
  have CR := Lib.hid (fun W (hb : Below w'.heap.size w' W) => rdKey_c ⟨nm, ga, gl, gc, wa, wl, wc, ky, ⟨kd, n0, n1, n2⟩⟩ t1 p1 q a8 L c8 (by have := HLN.out; omega) W (HD.out.grow hb) (HF.out.grow hb))
  have M1 := Lib.hid (fun W (hb : Below w'.heap.size w' W) => dmay_c ⟨nm, ga, gl, gc, wa, wl, wc, ky, ⟨kd, n0, n1, n2⟩⟩ W (HMW.out W hb) (HD.out.grow hb))
  have M2 := Lib.hid (fun W (hb : Below w'.heap.size w' W) => rdmay_c ⟨nm, ga, gl, gc, wa, wl, wc, ky, ⟨kd, n0, n1, n2⟩⟩ W (HD.out.grow hb))
  have S1 := Lib.hid (fun W (hb : Below w'.heap.size w' W) => dSame_c ⟨nm, ga, gl, gc, wa, wl, wc, ky, ⟨kd, n0, n1, n2⟩⟩ ⟨nm', ga', gl', gc', wa', wl', wc', ky', ⟨kd', m0, m1, m2⟩⟩ W (HD.out.grow hb) (HO.out.grow hb))
  have S2 := Lib.hid (fun W (hb : Below w'.heap.size w' W) => rdSame_c ⟨nm, ga, gl, gc, wa, wl, wc, ky, ⟨kd, n0, n1, n2⟩⟩ ⟨nm', ga', gl', gc', wa', wl', wc', ky', ⟨kd', m0, m1, m2⟩⟩ W (HD.out.grow hb) (HO.out.grow hb))
  have W1 := Lib.hid (fun W (hb : Below w'.heap.size w' W) => dWants_c ⟨nm, ga, gl, gc, wa, wl, wc, ky, ⟨kd, n0, n1, n2⟩⟩ s1 (Nat.le_trans HU3.out (by decide)) W (HMW.out W hb) (HD.out.grow hb))
  have W2 := Lib.hid (fun W (hb : Below w'.heap.size w' W) => rdwants_c ⟨nm, ga, gl, gc, wa, wl, wc, ky, ⟨kd, n0, n1, n2⟩⟩ s1 (Nat.le_trans HU3.out (by decide)) W (HD.out.grow hb))
  have P1 := Lib.hid (fun W (hb : Below w'.heap.size w' W) => dPart_c ⟨nm, ga, gl, gc, wa, wl, wc, ky, ⟨kd, n0, n1, n2⟩⟩ t1 p1 q a8 L c8 (Nat.le_trans HU1.out (by decide)) (by have := HLN.out; omega) W (HMW.out W hb) (HD.out.grow hb) (HF.out.grow hb))
  have P2 := Lib.hid (fun W (hb : Below w'.heap.size w' W) => rdPart_c ⟨nm, ga, gl, gc, wa, wl, wc, ky, ⟨kd, n0, n1, n2⟩⟩ t1 p1 q a8 L c8 (Nat.le_trans HU1.out (by decide)) (by have := HLN.out; omega) W (HD.out.grow hb) (HF.out.grow hb))
  have CA9 := Lib.hid (fun W (hb : Below w'.heap.size w' W) => CA.out W (bstep hb HB.out))
  unfold DB.agg at CK CR M1 M2 S1 S2 W1 W2 P1 P2
  simp only at CK CR M1 M2 S1 S2 W1 W2 P1 P2
  generalize keyD ⟨nm, ga, gl, gc, wa, wl, wc, ky, ⟨kd, n0, n1, n2⟩⟩ L = K at CK CR
  generalize (mayD ⟨nm, ga, gl, gc, wa, wl, wc, ky, ⟨kd, n0, n1, n2⟩⟩ && wantsD ⟨nm, ga, gl, gc, wa, wl, wc, ky, ⟨kd, n0, n1, n2⟩⟩ s1) = wb at W1 W2
  generalize mayD ⟨nm, ga, gl, gc, wa, wl, wc, ky, ⟨kd, n0, n1, n2⟩⟩ = mb at M1 M2
  generalize sameD ⟨nm, ga, gl, gc, wa, wl, wc, ky, ⟨kd, n0, n1, n2⟩⟩ ⟨nm', ga', gl', gc', wa', wl', wc', ky', ⟨kd', m0, m1, m2⟩⟩ = sb at S1 S2
  generalize partD ⟨nm, ga, gl, gc, wa, wl, wc, ky, ⟨kd, n0, n1, n2⟩⟩ t1 L = pt at P1 P2
  obtain ⟨kf, kb⟩ := K
  unfold vV at CK CR
  simp only at CK CR
  clear HD HO HF HM HMW HLN HU1 HU3 CA
  have H3 := Lib.hid (fun W (hb : Below w'.heap.size w' W) => (HX3.out.grow hb).box)
  have H4 := Lib.hid (fun W (hb : Below w'.heap.size w' W) => (HX4.out.grow hb).box)
  have H5 := Lib.hid (fun W (hb : Below w'.heap.size w' W) => (HX5.out.grow hb).box)
  clear HX3 HX4 HX5
  obtain ⟨x0, x1, x2, x3, x4, x5, x6, x7, x8⟩ := H3.out w' (.refl _ _)
  obtain ⟨y0, y1, y2, y3, y4⟩ := H5.out w' (.refl _ _)
  go_wp2_with fail
  refine (CK.out _ (.refl _ _)).mono ?_
  rintro e w2 ⟨rfl, hb2⟩
  have HG2 := Lib.hid hb2
  clear hb2 CK x0 x1 x2 x3 x4 x5 x6 x7 x8 y0 y1 y2 y3 y4
  go_upto_region 3 with fail
  refine wp_genC (fun v => Hid (Below w'.heap.size w' v) ∧ Hid (VX v w2.heap.size kf)) ⟨balloc _ HG2.out, VX.new _ _⟩ ?_
  rintro w3 ⟨HG3, HV3⟩
  generalize w2.heap.size = B7 at HV3 ⊢
  clear HG2
  obtain ⟨x0, x1, x2, x3, x4, x5, x6, x7, x8⟩ := H3.out _ HG3.out
  obtain ⟨y0, y1, y2, y3, y4⟩ := H5.out _ HG3.out
  go_wp2_with fail
  refine (CR.out _ HG3.out).mono ?_
  rintro e w4 ⟨rfl, hb4⟩
  have HG4 := Lib.hid (bstep hb4 HG3.out)
  have HV4 := Lib.hid (HV3.out.grow hb4)
  clear hb4 CR HV3 HG3 x0 x1 x2 x3 x4 x5 x6 x7 x8 y0 y1 y2 y3 y4
  go_upto_region 4 with fail
  refine wp_genC (fun v => Hid (Below w'.heap.size w' v) ∧ Hid (VX v w4.heap.size kf) ∧ Hid (VX v B7 kf)) ⟨balloc _ HG4.out, VX.new _ _, HV4.out.grow (balloc _ (.refl _ _))⟩ ?_
  rintro w5 ⟨HG5, HV5, HV6⟩
  generalize w4.heap.size = B9 at HV5 ⊢
  clear HG4 HV4
  obtain ⟨x0, x1, x2, x3, x4, x5, x6, x7, x8⟩ := H3.out _ HG5.out
  obtain ⟨z0, z1, z2, z3, z4, z5, z6, z7, z8⟩ := H4.out _ HG5.out
  obtain ⟨y0, y1, y2, y3, y4⟩ := H5.out _ HG5.out
  obtain ⟨v0, v1, v2, v3, -, -, -⟩ := HV5.out.box
  obtain ⟨s0, s1', s2, s3, -, -, -⟩ := HV6.out.box
  have M1 := Lib.hid (fun W (hb : Below w5.heap.size w5 W) => M1.out W (bstep hb HG5.out))
  have M2 := Lib.hid (fun W (hb : Below w5.heap.size w5 W) => M2.out W (bstep hb HG5.out))
  have S1 := Lib.hid (fun W (hb : Below w5.heap.size w5 W) => S1.out W (bstep hb HG5.out))
  have S2 := Lib.hid (fun W (hb : Below w5.heap.size w5 W) => S2.out W (bstep hb HG5.out))
  have W1 := Lib.hid (fun W (hb : Below w5.heap.size w5 W) => W1.out W (bstep hb HG5.out))
  have W2 := Lib.hid (fun W (hb : Below w5.heap.size w5 W) => W2.out W (bstep hb HG5.out))
  have P1 := Lib.hid (fun W (hb : Below w5.heap.size w5 W) => P1.out W (bstep hb HG5.out))
  have P2 := Lib.hid (fun W (hb : Below w5.heap.size w5 W) => P2.out W (bstep hb HG5.out))
  have CA9 := Lib.hid (fun W (hb : Below w5.heap.size w5 W) => CA9.out W (bstep hb HG5.out))
  have HB5 := Lib.hid (bstep HG5.out HB.out)
  clear HG5 HB H3 H4 H5 HV5 HV6
  refine Tryst2.wp_region_grows [.is (.agg #[.string nm, .slice ga gl.length gc, .slice wa wl.length wc, .string ky, .string kd, .int .i64 n0, .int .i64 n1, .int .i64 n2]), .is (.bool mb), .is (.agg #[.string nm, .slice ga gl.length gc, .slice wa wl.length wc, .string ky, .string kd, .int .i64 n0, .int .i64 n1, .int .i64 n2]), .is (.bool mb), .is (.bool true), .is (.bool true), .is (.agg #[.string nm, .slice ga gl.length gc, .slice wa wl.length wc, .string ky, .string kd, .int .i64 n0, .int .i64 n1, .int .i64 n2]), .is (.agg #[.string nm', .slice ga' gl'.length gc', .slice wa' wl'.length wc', .string ky', .string kd', .int .i64 m0, .int .i64 m1, .int .i64 m2]), .is (.bool sb), .is (.agg #[.string nm, .slice ga gl.length gc, .slice wa wl.length wc, .string ky, .string kd, .int .i64 n0, .int .i64 n1, .int .i64 n2]), .is (.agg #[.string nm', .slice ga' gl'.length gc', .slice wa' wl'.length wc', .string ky', .string kd', .int .i64 m0, .int .i64 m1, .int .i64 m2]), .is (.bool sb), .is (.bool true), .is (.bool true), .is (.bool true), .is (.agg #[.string nm, .slice ga gl.length gc, .slice wa wl.length wc, .string ky, .string kd, .int .i64 n0, .int .i64 n1, .int .i64 n2]), .is (.string s1), .is (.bool wb), .is (.agg #[.string nm, .slice ga gl.length gc, .slice wa wl.length wc, .string ky, .string kd, .int .i64 n0, .int .i64 n1, .int .i64 n2]), .is (.string s1), .is (.bool wb), .is (.bool true), .is (.bool true), .is (.bool true), .is (.agg #[.string nm, .slice ga gl.length gc, .slice wa wl.length wc, .string ky, .string kd, .int .i64 n0, .int .i64 n1, .int .i64 n2]), .is (.agg #[.string t1, .string p1, .int .u64 q, .slice a8 L.length c8]), .is (.int .i64 pt), .is (.agg #[.string nm, .slice ga gl.length gc, .slice wa wl.length wc, .string ky, .string kd, .int .i64 n0, .int .i64 n1, .int .i64 n2]), .is (.agg #[.string t1, .string p1, .int .u64 q, .slice a8 L.length c8]), .is (.int .i64 pt), .is (.bool true), .is (.bool true), .is (.bool true), .is (.agg #[.bool kf.num, .int .i64 kf.n, .string kf.s]), .is (.agg #[.bool kf.num, .int .i64 kf.n, .string kf.s]), .is (.bool true), .is (.bool true), .is (.bool true), .is (.bool kb), .is (.bool kb), .is (.bool true), .is (.bool true), .is (.bool true), .is (.bool true), .is (.bool true)] (by kernel_rfl) (by kernel_rfl) ?obl ?fin
  case obl =>
   simp only [YA, YL, YO, YR, Op.operands, Call.operands]
   repeat' apply And.intro
   any_goals trivial
   all_goals (intro tv w' hg hold hd; (try simp at hold); obtain ⟨hcg, hfg, hsg⟩ := YG hg)
   all_goals first | (go_simp; done) | (go_simp; rw [if_neg (by omega)]; exact ⟨.refl _, rfl⟩) | (obtain ⟨⟨g, hvg, hgg, hcell⟩, _⟩ := hd; have hcell0 := hcell 0 (by decide); simp at hcell0; go_simp; done) | (go_simp; go_at_call 28; (with_reducible refine (M1.out _ ?_).mono ?_); (exact Tryst2.Grow.below hg (.refl _ _)); rintro e w9 ⟨rfl, hb9⟩; exact ⟨hb9, rfl⟩) | (go_simp; go_at_call 23; (with_reducible refine (M2.out _ ?_).mono ?_); (exact Tryst2.Grow.below hg (.refl _ _)); rintro e w9 ⟨rfl, hb9⟩; exact ⟨hb9, rfl⟩) | (go_simp; go_at_call 35; (with_reducible refine (S1.out _ ?_).mono ?_); (exact Tryst2.Grow.below hg (.refl _ _)); rintro e w9 ⟨rfl, hb9⟩; exact ⟨hb9, rfl⟩) | (go_simp; go_at_call 36; (with_reducible refine (S2.out _ ?_).mono ?_); (exact Tryst2.Grow.below hg (.refl _ _)); rintro e w9 ⟨rfl, hb9⟩; exact ⟨hb9, rfl⟩) | (go_simp; go_at_call 29; (with_reducible refine (W1.out _ ?_).mono ?_); (exact Tryst2.Grow.below hg (.refl _ _)); rintro e w9 ⟨rfl, hb9⟩; exact ⟨hb9, rfl⟩) | (go_simp; go_at_call 25; (with_reducible refine (W2.out _ ?_).mono ?_); (exact Tryst2.Grow.below hg (.refl _ _)); rintro e w9 ⟨rfl, hb9⟩; exact ⟨hb9, rfl⟩) | (go_simp; go_at_call 30; (with_reducible refine (P1.out _ ?_).mono ?_); (exact Tryst2.Grow.below hg (.refl _ _)); rintro e w9 ⟨rfl, hb9⟩; exact ⟨hb9, rfl⟩) | (go_simp; go_at_call 37; (with_reducible refine (P2.out _ ?_).mono ?_); (exact Tryst2.Grow.below hg (.refl _ _)); rintro e w9 ⟨rfl, hb9⟩; exact ⟨hb9, rfl⟩) | (go_simp; go_at_call 22; (with_reducible refine (CA9.out _ ?_).mono ?_); (exact Tryst2.Grow.below hg (.refl _ _)); rintro e w9 ⟨rfl, hb9⟩; exact ⟨hb9, rfl⟩)
  case fin =>
   intro tv w' hg hR
   simp only [YF, YL, YR] at hR
   obtain ⟨hcg, hfg, hsg⟩ := YG hg
   simp only [YP, YL, Act.put, hR]
   have HB10 := Lib.hid (bstep (Tryst2.Grow.below hg (.refl _ _)) HB5.out)
   clear hg hR hcg hfg hsg
   go_wp2_with fail
   go_ret
   exact ⟨rfl, HB10.out⟩
end Go.Proofs.YtmlbdblnmbmnpaaGreatDoor
