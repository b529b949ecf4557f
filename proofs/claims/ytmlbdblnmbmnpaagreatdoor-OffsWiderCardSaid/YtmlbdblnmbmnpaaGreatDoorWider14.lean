/- the law OffsWider -/
/- The law OffsWider. -/
import Derived.Test.YtmlbdblnmbmnpaaGreatDoorProg
import Derived.WalkKit
import Derived.WalkSpells
import Derived.WalkLawsBesides
import Derived.Lib.Hide
import Derived.Deep.RegionWith
import Derived.Deep.Cut
import Derived.IntWalk
import Derived.Lib.AppendZeros
import Derived.Test.YtmlbdblnmbmnpaaGreatDoorDrawS
import Derived.Test.YtmlbdblnmbmnpaaGreatDoorFewDB14
import Derived.Test.YtmlbdblnmbmnpaaGreatDoorAw14
import Derived.Test.YtmlbdblnmbmnpaaGreatDoorOpen14
set_option linter.unusedVariables false
set_option linter.unusedSimpArgs false

namespace Go.Proofs.YtmlbdblnmbmnpaaGreatDoor
open Go.RowKit Tryst
set_option maxHeartbeats 16000000
set_option maxRecDepth 20000
theorem Strs.keepW {w w' : World} {a : Option Addr} {l : List ByteArray} (h : Strs w a l) (hb : ∀ b o, a = some ⟨b, o, none⟩ → b < w.heap.size → w'.heap[b]? = w.heap[b]?) (hz : w.heap.size ≤ w'.heap.size) : Strs w' a l := by
 intro i hi
 obtain ⟨b, o, h1, h2, h3⟩ := h i hi
 exact ⟨b, o, h1, Nat.lt_of_lt_of_le h2 hz, (World.cell?_of_block (w := w) (a := ⟨b, o + i, none⟩) (hb b o h1 h2)).trans h3⟩
theorem Row.keepW {w w' : World} {a : Option Addr} {k : Nat} {l : List (List Value)} (h : Row w a k l) (hb : ∀ b o, a = some ⟨b, o, none⟩ → b < w.heap.size → w'.heap[b]? = w.heap[b]?) (hz : w.heap.size ≤ w'.heap.size) : Row w' a k l := by
 intro i hi
 obtain ⟨b, o, h1, h2, h3⟩ := h i hi
 exact ⟨b, o, h1, Nat.lt_of_lt_of_le h2 hz, fun j hj => (World.cell?_of_block (w := w) (a := ⟨b, o + i * k + j, none⟩) (hb b o h1 h2)).trans (h3 j hj)⟩
theorem Flds.keepW {w w' : World} {a : Option Addr} {l : List FB} (h : Flds w a l) (hb : ∀ b o, a = some ⟨b, o, none⟩ → b < w.heap.size → w'.heap[b]? = w.heap[b]?) (hz : w.heap.size ≤ w'.heap.size) : Flds w' a l := by
 intro i hi
 obtain ⟨b, o, h1, h2, h3⟩ := h i hi
 have hc : ∀ j, w'.cell? ⟨b, j, none⟩ = w.cell? ⟨b, j, none⟩ := fun j => World.cell?_of_block (w := w) (a := ⟨b, j, none⟩) (hb b o h1 h2)
 obtain ⟨k0, k1, k2, k3⟩ := h3
 exact ⟨b, o, h1, Nat.lt_of_lt_of_le h2 hz, ⟨(hc _).trans k0, (hc _).trans k1, (hc _).trans k2, (hc _).trans k3⟩⟩
/-- what lies in the blocks of one time stays, if they do -/
theorem DOB.keepW {base : Nat} {v w : World} {d : DB} (h : DOB base v d) (hk : ∀ b, base ≤ b → b < v.heap.size → w.heap[b]? = v.heap[b]?) (hz : v.heap.size ≤ w.heap.size) : DO w d := by
 have hp : ∀ p ∈ d.wl, PO w p ∧ nodesB p ≤ 50 := fun p hp => ⟨(h.ps p hp).1.keep (fun b hb hl => ⟨hk b hb hl, trivial⟩) hz, (h.ps p hp).2⟩
 exact ⟨h.o.hn, h.o.hg, h.o.hgs, Strs.keepW h.o.gS (fun b o e => hk b (h.ga b o e)) hz, h.o.gL, h.o.hw, ⟨Row.keepW h.o.wR.row (fun b o e => hk b (h.wa b o e)) hz, h.o.wR.sl, hp⟩, h.o.hk⟩
def DbW (lo hi : Nat) (v : Value) (w : World) : Prop := w.heap.size = hi ∧ ∃ d : DB, v = d.agg ∧ DOB lo w d
def EvW (t p : ByteArray) (q : Int) (L : List FB) (lo hi : Nat) (v : Value) (w : World) : Prop := w.heap.size = hi ∧ ∃ a c, v = .agg #[.string t, .string p, .int .u64 q, .slice a L.length c] ∧ Flds w a L ∧ ∀ b o, a = some ⟨b, o, none⟩ → lo ≤ b
theorem EvW.of {w w' : World} {t p : ByteArray} {q : Int} {l : List FB} {a : Option Addr} {c : Nat} (h : FOwn 96 w' w.heap.size (.slice a l.length c) l) (hb : Below w.heap.size w w') : Tryst2.Grow w w' ∧ EvW t p q l w.heap.size w'.heap.size (.agg #[.string t, .string p, .int .u64 q, .slice a l.length c]) w' := by
 obtain ⟨a', c', e, h1, h2, _, h3⟩ := h.flds
 simp only [Value.slice.injEq, true_and] at e
 obtain ⟨rfl, rfl⟩ := e
 exact ⟨hb, rfl, a, c, rfl, h1, fun b o e => (h2 b o e).1⟩
theorem newBoxW (cs : List Value) (T : TypeId) (w : World) : Tryst2.Grow w (w.alloc (.cells cs.toArray T)) ∧ ∃ g ds, Value.pointer (some ⟨w.heap.size, 0, none⟩) = .pointer (some ⟨g, 0, none⟩) ∧ w.heap.size ≤ g ∧ (w.alloc (.cells cs.toArray T)).heap[g]? = some (.cells ds T (0, 0)) ∧ ds.size = cs.length :=
 ⟨Tryst2.Grow.alloc (Tryst2.Grow.refl _) _, _, cs.toArray, rfl, Nat.le_refl _, by show (w.heap.push _)[w.heap.size]? = _; simp, by simp⟩
theorem allocE (ρ : Operand → Value) (o : Oper) (w : World) (ho : o.op = .alloc 63) : (execOp ρ o).run Tryz.prog w = .ok (.value (.pointer (some ⟨w.heap.size, 0, none⟩))) (w.alloc (.cells #[.string ⟨#[]⟩, .string ⟨#[]⟩, .int .u64 0, .slice none 0 0] 63)) := by
 unfold execOp
 rw [ho]
 kernel_rfl
def EW4 (w : World) (g : Nat) (t p : ByteArray) (q : Int) (u : Value) : World := (((w.setCell ⟨g, 0, none⟩ (.string t)).setCell ⟨g, 1, none⟩ (.string p)).setCell ⟨g, 2, none⟩ (.int .u64 q)).setCell ⟨g, 3, none⟩ u
theorem stored4 {tv : Nat → Value} {o : Oper} {P s : Nat} {W : World} {t p : ByteArray} {q : Int} {a : Option Addr} {n c : Nat} (ho : o.op = .store 63 (.tmp P) (.tmp s)) (hs : tv s = .agg #[.string t, .string p, .int .u64 q, .slice a n c])
  (hb : ∃ (g : Nat) (cs : Array Value), tv P = .pointer (some ⟨g, 0, none⟩) ∧ W.heap[g]? = some (.cells cs 63 (0, 0)) ∧ cs.size = 4) :
  Tryst2.stepV Tryz.prog (fun v w'' => ∀ g : Nat, tv P = .pointer (some ⟨g, 0, none⟩) → Tryst4.Only g W w'' ∧ w''.heap[g]? = some (.cells (Tryst4.cellsOf (tv s)).toArray 63 (0, 0)) ∧ (Tryst4.cellsOf (tv s)).length = 4) ((execOp (Tryst2.evOf tv) o).run Tryz.prog W) := by
 obtain ⟨g, cs, hp, hg, hc⟩ := hb
 have e : (execOp (Tryst2.evOf tv) o).run Tryz.prog W = .ok .skip (EW4 W g t p q (.slice a n c)) := by
  obtain ⟨⟨u0, c0⟩, z0⟩ := cells_of hg hc (j := 0) (by decide)
  obtain ⟨⟨u1, c1⟩, z1⟩ := cells_of hg hc (j := 1) (by decide)
  obtain ⟨⟨u2, c2⟩, z2⟩ := cells_of hg hc (j := 2) (by decide)
  obtain ⟨⟨u3, c3⟩, z3⟩ := cells_of hg hc (j := 3) (by decide)
  have hlt := (Array.getElem?_eq_some_iff.1 hg).1
  unfold execOp EW4
  rw [ho]
  clear hg hc
  go_simp
 rw [e, Tryst2.stepV_skip]
 intro g' hg'
 rw [hp] at hg'
 simp only [Value.pointer.injEq, Option.some.injEq, Addr.mk.injEq, and_true] at hg'
 subst hg'
 rw [hs]
 obtain ⟨l⟩ := cs
 match l, hc with
 | [a0, a1, a2, a3], _ =>
  refine ⟨⟨rfl, rfl, rfl, by unfold EW4; simp, fun b hb => ?_⟩, ?_, rfl⟩
  ·
   unfold EW4
   rw [Below.heap_setCell _ _ _ _ hb, Below.heap_setCell _ _ _ _ hb, Below.heap_setCell _ _ _ _ hb, Below.heap_setCell _ _ _ _ hb]
  ·
   unfold EW4 Tryst4.cellsOf
   simp [World.setCell, Array.getElem?_modify, hg]
/-- what is asked: a box of twenty-one cells -/
def AX (w : World) (g : Nat) (cs : List Value) : Prop := w.heap[g]? = some (.cells cs.toArray 65 (0, 0))
theorem AX.new (w : World) (cs : List Value) : AX (w.alloc (.cells cs.toArray 65)) w.heap.size cs := by
 show (w.heap.push _)[w.heap.size]? = _
 simp
theorem AX.lt {w : World} {g : Nat} {cs : List Value} (h : AX w g cs) : g < w.heap.size := (Array.getElem?_eq_some_iff.1 h).1
theorem AX.cell {w : World} {g : Nat} {cs : List Value} (h : AX w g cs) (j : Nat) {u : Value} (hu : cs[j]? = some u) : w.cell? ⟨g, j, none⟩ = some u := by
 unfold AX at h
 simp [World.cell?, h, hu]
/-- a copy of a slice's rows, to a new slice that has no room -/
theorem row_copy {P : Program} {t e : TypeId} {k bytes : Nat} (E : SliceOf P t e k bytes) (base g : Nat) (a2 : Option Addr) (r : List (List Value)) (n c2 : Nat) (hn : r.length = n) (w : World) (hb : base ≤ w.heap.size) (hg : ROwn e k w base (.slice (some ⟨g, 0, none⟩) 0 0) []) (hr : ∀ f ∈ r, f.length = k) (hl : r.length ≤ 1000000) (hS : Row w a2 k r) (ty : TypeId) :
  ∃ v' w', (Builtin.append_ #[t, t] ty #[.slice (some ⟨g, 0, none⟩) 0 0, .slice a2 n c2]).run P w = .ok v' w' ∧ Tryst2.Grow w w' ∧ ROwn e k w' base v' r := by
 subst hn
 obtain ⟨ii, z, hii, hz, h2, h3, h4⟩ := E.info
 have hbm := E.small
 by_cases h0 : r = []
 ·
  subst h0
  refine ⟨_, _, run_append_nothing (P := P) w t t ty e ii E.und hii (some ⟨g, 0, none⟩) 0 0 (Nat.le_refl _) _ ?_, Tryst2.Grow.refl _, hg⟩
  cases a2 with
  | none => exact Src.ofNil w E.und c2
  | some ad => exact Src.ofSlice w E.und ad 0 c2 [] (by simp) (fun j u hj => by simp at hj) (fun u hu => by cases hu)
 ·
  have hpos : 0 < r.length := List.length_pos_iff.2 h0
  obtain ⟨b2, o2, rfl, _⟩ := hS.head hpos
  obtain ⟨v', w', hrun, ho, hg2⟩ := run_append_arg_grows (P := P) (w := w) t ty e ii z k bytes E.und hii hz h2 h3 h4 E.pos ⟨g, 0, none⟩ 0 0 [] (by simp) (fun j u hj => by simp at hj) ⟨b2, o2, none⟩ r.length c2 r.flatten (flatten_len hr) (hS.cells hr E.pos) (by omega) (by unfold maxLen; omega) (by
   calc (0 + r.length) * bytes ≤ 1000000 * 65536 := Nat.mul_le_mul (by omega) hbm
    _ ≤ 140737488355328 := by decide)
  have hgr : Tryst2.Grow w w' := (Below.refl _ _).grown hg2 (Nat.le_refl _) (fun k hk => by cases hk)
  refine ⟨v', w', hrun, hgr, ?_⟩
  have ho2 : ROwn e k w' w.heap.size v' r := by
   unfold ROwn
   simpa using ho
  exact ROwn.lower ho2 hb
theorem AX.grow {w w' : World} {g : Nat} {cs : List Value} (h : AX w g cs) (hb : Below w.heap.size w w') : AX w' g cs := (hb.block g h.lt).trans h
/-- a box of any cells -/
def WX (w : World) (g : Nat) (T : TypeId) (cs : List Value) : Prop := w.heap[g]? = some (.cells cs.toArray T (0, 0))
theorem WX.new (T : TypeId) (w : World) (cs : List Value) : WX (w.alloc (.cells cs.toArray T)) w.heap.size T cs := by
 show (w.heap.push _)[w.heap.size]? = _
 simp
theorem WX.grow {w w' : World} {g : Nat} {T : TypeId} {cs : List Value} (h : WX w g T cs) (hb : Below w.heap.size w w') : WX w' g T cs := (hb.block g (Array.getElem?_eq_some_iff.1 h).1).trans h
theorem WX.cell {w : World} {g : Nat} {T : TypeId} {cs : List Value} (h : WX w g T cs) (j : Nat) {u : Value} (hu : cs[j]? = some u) : w.cell? ⟨g, j, none⟩ = some u := by
 unfold WX at h
 simp [World.cell?, h, hu]
/-- an empty slice of the call's own, and a copy of a definition's predicates, in a drawn region -/
def EmpW (base : Nat) (v : Value) (w : World) : Prop := ∃ g, v = .slice (some ⟨g, 0, none⟩) 0 0 ∧ ROwn 69 6 w base (.slice (some ⟨g, 0, none⟩) 0 0) []
theorem EmpW.at {base : Nat} {v : Value} {w' : World} (h : ∃ w0, Tryst2.Grow w0 w' ∧ EmpW base v w0) : ∃ g, v = .slice (some ⟨g, 0, none⟩) 0 0 ∧ ROwn 69 6 w' base (.slice (some ⟨g, 0, none⟩) 0 0) [] := by
 obtain ⟨w0, hg, g, h1, h2⟩ := h
 exact ⟨g, h1, h2.grow hg⟩
theorem EmpW.of (base : Nat) (w : World) (h : base ≤ w.heap.size) : ∃ w0, Tryst2.Grow w0 (w.alloc (.cells #[] 69)) ∧ EmpW base (.slice (some ⟨w.heap.size, 0, none⟩) 0 0) w0 :=
 ⟨_, Tryst2.Grow.refl _, w.heap.size, rfl, ROwn.empty _ _ _ _ h⟩
def CpW (base : Nat) (l : List PB) (v : Value) (w : World) : Prop := ROwn 69 6 w base v (l.map PB.cells)
theorem CpW.at {base : Nat} {l : List PB} {v : Value} {w' : World} (h : ∃ w0, Tryst2.Grow w0 w' ∧ CpW base l v w0) : ROwn 69 6 w' base v (l.map PB.cells) := by
 obtain ⟨w0, hg, h⟩ := h
 exact ROwn.grow h hg
theorem DX.set5 {w : World} {g : Nat} {nm : ByteArray} {G U : Value} {ky kd : ByteArray} {p n x : Int} (h : DX w g nm G U ky kd p n x) (m : Int) : DX (w.setCell ⟨g, 5, none⟩ (.int .i64 m)) g nm G U ky kd m n x := by
 unfold DX at h ⊢
 simp [World.setCell, Array.getElem?_modify, h]
/-- one glob more: what was wanted is wanted -/
theorem wants_more {d x : DB} {gb t : ByteArray} (hx : x.gl = d.gl ++ [gb]) (hm : mayD x = true) (hw : (mayD d && wantsD d t) = true) : (mayD x && wantsD x t) = true := by
 rw [Bool.and_eq_true] at hw ⊢
 refine ⟨hm, ?_⟩
 unfold wantsD at hw ⊢
 rw [hx, List.any_append, hw.2, Bool.true_or]
/-- one predicate more, behind: a part that was is -/
theorem part_more {d x : DB} {y : PB} {t : ByteArray} {l : List FB} (hx : x.wl = d.wl ++ [y]) (hm : mayD x = true) (hp : 0 ≤ partD d t l) : partD x t l = partD d t l := by
 unfold partD at hp ⊢
 rw [if_pos hm, hx]
 by_cases hd : mayD d = true
 ·
  rw [if_pos hd] at hp ⊢
  unfold idxG at hp ⊢
  rw [List.findIdx?_append]
  cases h : List.findIdx? (fun x : PB => mayP x.pr && holdsP t l x.pr) d.wl with
  | none => rw [h] at hp; simp at hp
  | some i => simp
 ·
  rw [if_neg hd] at hp; omega
theorem pv_len (l : List PB) (y : PB) : ∀ f ∈ l.map PB.cells ++ [y.cells], f.length = 6 := by
 intro f hf
 rcases List.mem_append.1 hf with h | h
 ·
  exact PB.cells_len _ f h
 ·
  rw [List.mem_singleton] at h; subst h; rfl
theorem sv_len (l : List ByteArray) (g : ByteArray) : ∀ f ∈ l.map (fun s => [Value.string s]) ++ [[.string g]], f.length = 1 := by
 intro f hf
 rcases List.mem_append.1 hf with h | h
 ·
  obtain ⟨s, _, rfl⟩ := List.mem_map.1 h; rfl
 ·
  rw [List.mem_singleton] at h; subst h; rfl
theorem offsWider_c (y z : DB) (t p : ByteArray) (q : Int) (a : Option Addr) (l : List FB) (c : Nat) (s : ByteArray) (ht : t.size ≤ 9223372036854775807) (hp : p.size ≤ 9223372036854775807) (h0 : 0 ≤ q) (h4 : q ≤ 18446744073709551615) (hI : FIn l) (hl : l.length ≤ 9223372036854775807) (hs : s.size ≤ 9223372036854775807)
  (gb : ByteArray) (hgb : gb.size ≤ 9223372036854775807) (pr : PB) (w : World) (hM : MaxW w) (hY : DArg w y) (hZ : DArg w z) (hF : Flds w a l) (hP : PArg w pr) :
  Calls Tryz.prog 6 #[.agg #[.string y.name, .slice y.ga y.gl.length y.gc, .slice y.wa y.wl.length y.wc, .string y.key, .string y.j.kind, .int .i64 y.j.parts, .int .i64 y.j.need, .int .i64 y.j.window, .string z.name, .slice z.ga z.gl.length z.gc, .slice z.wa z.wl.length z.wc, .string z.key, .string z.j.kind, .int .i64 z.j.parts, .int .i64 z.j.need, .int .i64 z.j.window, .string t, .string p, .int .u64 q, .slice a l.length c, .string s], .string gb, pr.agg] w fun e w' => e = .returned (.bool true) ∧ Below w.heap.size w w' := by
 obtain ⟨hO, hO2, hlen⟩ := few_ok hI
 have CD := Lib.hid (fun W (hb : Below w.heap.size w W) => fewDB_c y W (hY.grow hb))
 have CE := Lib.hid (fun W (hb : Below w.heap.size w W) => efewO_c t p q a c l hl ht hp (few_in hI) W (hF.grow hb))
 have CX := Lib.hid (fun W => few60_c s hs W)
 have CG := Lib.hid (fun W => few60_c gb hgb W)
 have cP := fun W (hb : Below w.heap.size w W) => fewpr_c pr W (PArg.grow hP hb)
 have HM := Lib.hid (fun W (hb : Below w.heap.size w W) => hM.grow hb)
 have CA := Lib.hid (fun W (hb : Below w.heap.size w W) => awake14_c W (hM.grow hb))
 have u1 := few60_le t
 have u2 := few60_le p
 have u3 := few60_le s
 have u4 := few60_le gb
 clear hF hM hI hO hO2 hl ht hp hY hZ hs hgb hP
 revert CE hlen u1 u2 CX u3 CG u4
 generalize few60 t = t1
 generalize few60 p = p1
 generalize few60 s = s1
 generalize few60 gb = gb1
 generalize fewL l = L
 intro hlen CE CX CG u1 u2 u3 u4
 obtain ⟨nm, ga, gl, gc, wa, wl, wc, ky, ⟨kd, n0, n1, n2⟩⟩ := y
 obtain ⟨op, ps, num, pn, vs, pa, pc, pl⟩ := pr
 unfold PB.agg at cP ⊢
 have CP := Lib.hid cP
 clear cP
 unfold DB.agg at CD
 simp only at CD CP ⊢
 go_enter Tryz.func6, Tryz.ntmps6
 go_upto_region 1 with fail
 refine wp_genC (fun v => Hid (AX v w.heap.size [.string nm, .slice ga gl.length gc, .slice wa wl.length wc, .string ky, .string kd, .int .i64 n0, .int .i64 n1, .int .i64 n2, .string z.name, .slice z.ga z.gl.length z.gc, .slice z.wa z.wl.length z.wc, .string z.key, .string z.j.kind, .int .i64 z.j.parts, .int .i64 z.j.need, .int .i64 z.j.window, .string t, .string p, .int .u64 q, .slice a l.length c, .string s]) ∧ Hid (WX v (w.heap.size + 1) 69 [.string op, .string ps, .bool num, .int .i64 pn, .string vs, .slice pa pl.length pc]) ∧ Hid (Below w.heap.size w v)) ?_ ?_
 ·
  have e1 := WX.new 69 (w.alloc (.cells ([.string nm, .slice ga gl.length gc, .slice wa wl.length wc, .string ky, .string kd, .int .i64 n0, .int .i64 n1, .int .i64 n2, .string z.name, .slice z.ga z.gl.length z.gc, .slice z.wa z.wl.length z.wc, .string z.key, .string z.j.kind, .int .i64 z.j.parts, .int .i64 z.j.need, .int .i64 z.j.window, .string t, .string p, .int .u64 q, .slice a l.length c, .string s] : List Value).toArray 65)) [.string op, .string ps, .bool num, .int .i64 pn, .string vs, .slice pa pl.length pc]
  rw [show (w.alloc (.cells ([.string nm, .slice ga gl.length gc, .slice wa wl.length wc, .string ky, .string kd, .int .i64 n0, .int .i64 n1, .int .i64 n2, .string z.name, .slice z.ga z.gl.length z.gc, .slice z.wa z.wl.length z.wc, .string z.key, .string z.j.kind, .int .i64 z.j.parts, .int .i64 z.j.need, .int .i64 z.j.window, .string t, .string p, .int .u64 q, .slice a l.length c, .string s] : List Value).toArray 65)).heap.size = w.heap.size + 1 by simp] at e1
  exact ⟨(AX.new w _).grow (balloc _ (.refl _ _)), e1, balloc _ (balloc _ (.refl _ _))⟩
 rintro Y ⟨HX, HQ, HY⟩
 have x0 := HX.out.lt
 have x1 := HX.out.cell 0 rfl
 have x2 := HX.out.cell 1 rfl
 have x3 := HX.out.cell 2 rfl
 have x4 := HX.out.cell 3 rfl
 have x5 := HX.out.cell 4 rfl
 have x6 := HX.out.cell 5 rfl
 have x7 := HX.out.cell 6 rfl
 have x8 := HX.out.cell 7 rfl
 have x17 := HX.out.cell 16 rfl
 have x18 := HX.out.cell 17 rfl
 have x19 := HX.out.cell 18 rfl
 have x20 := HX.out.cell 19 rfl
 have x21 := HX.out.cell 20 rfl
 refine Tryst4.wp_region_owns [.is (.pointer (some ⟨w.heap.size, 0, none⟩)), .is (.agg #[.string nm, .slice ga gl.length gc, .slice wa wl.length wc, .string ky, .string kd, .int .i64 n0, .int .i64 n1, .int .i64 n2]), .own DbW, .is (.pointer (some ⟨w.heap.size, 16, none⟩)), .is (.agg #[.string t, .string p, .int .u64 q, .slice a l.length c]), .own (EvW t1 p1 q L), .is (.pointer (some ⟨w.heap.size, 20, none⟩)), .is (.string s), .is (.string s1), .box 27 8, .box 63 4, .put 9 2 27 8, .put 10 5 63 4, .is (.string s1)] (by kernel_rfl) (by kernel_rfl) (by kernel_rfl) ?obl ?fin
 case obl =>
  simp only [Tryst4.AllObl, Tryst4.Obl, Tryst4.depsS, Tryst4.Rsp.R, Tryst4.Rsp.made, Tryst4.val, YL, YO, Op.operands, Call.operands]
  repeat' apply And.intro
  any_goals trivial
  all_goals (intro tv lo hi w' hg hold hd; (try simp at hold); obtain ⟨hcg, hfg, hsg⟩ := YG hg)
  all_goals first | (go_simp; done) | (go_simp; go_at_call 9; (with_reducible refine (CD.out _ ?_).mono ?_); (exact bstep (Tryst2.Grow.below hg (.refl Y.heap.size Y)) HY.out); rintro e w2 ⟨d', rfl, ho, hb2⟩; exact ⟨hb2, rfl, d', rfl, ho⟩) | (go_simp; go_at_call 26; (with_reducible refine (CE.out _ ?_).mono ?_); (exact bstep (Tryst2.Grow.below hg (.refl Y.heap.size Y)) HY.out); rintro e w2 ⟨a', c', rfl, ho, hb2⟩; exact EvW.of ho hb2) | (go_simp; go_at_call 12; (with_reducible refine (CX.out _).mono ?_); rintro e w2 ⟨rfl, rfl⟩; exact ⟨Tryst2.Grow.refl _, rfl⟩) | (rw [allocD _ _ _ rfl, Tryst2.stepV_value]; exact newBoxW _ _ _) | (rw [allocE _ _ _ rfl, Tryst2.stepV_value]; exact newBoxW _ _ _) | (obtain ⟨⟨g, cs, e1, -, -, e4, e5⟩, ⟨v0, -, -, d', e6, -⟩, -⟩ := hd; exact stored8 rfl e6 ⟨g, cs, e1, e4, e5⟩) | (obtain ⟨⟨g, cs, e1, -, -, e4, e5⟩, ⟨v0, -, -, a', c', e6, -, -⟩, -⟩ := hd; exact stored4 rfl e6 ⟨g, cs, e1, e4, e5⟩)
 case fin =>
  intro tv w' lo hi hg hR hL hT
  simp only [Tryst4.allT, Tryst4.Rsp.R, Tryst4.val, Nat.reduceAdd, YL, YO] at hR
  simp only [YL, Nat.reduceAdd] at hL hT
  obtain ⟨hcg, hfg, hsg⟩ := YG hg
  simp only [YP, YL, Act.put, hR]
  obtain ⟨-, -, ⟨v2, s2, z2, d, e2, h2⟩, -, -, ⟨v8, s8, z8, a8, c8, e8, h8, b8⟩, -, -, -, ⟨g7, cs7, e7, l7, r7, -, -⟩, ⟨g8, cs8, e9, l8, r8, -, -⟩, ⟨g7', e7', -, -, k7⟩, ⟨g8', e9', -, -, k8⟩, -⟩ := hR
  rw [e7] at e7'
  rw [e9] at e9'
  simp only [Value.pointer.injEq, Option.some.injEq, Addr.mk.injEq, and_true] at e7' e9'
  subst e7' e9'
  simp only [e2, e8, e7, e9]
  rw [e2] at k7
  rw [e8] at k8
  have hy : w.heap.size < Y.heap.size := x0
  have HB := Lib.hid (bstep (Tryst2.Grow.below hg (.refl Y.heap.size Y)) HY.out)
  have HD : Hid (DOB (lo 2) v2 d ∧ ∀ b, lo 2 ≤ b → b < v2.heap.size → w'.heap[b]? = v2.heap[b]?) := ⟨h2, fun b h1 h3 => s2.block b (.inr ⟨h1, by omega⟩) h3⟩
  have HDO : Hid (DO w' d) := Lib.hid (h2.keepW (fun b h1 h3 => s2.block b (.inr ⟨h1, by omega⟩) h3) s2.size)
  have HF : Hid (Flds w' a8 L) := Lib.hid (Flds.keepW h8 (fun b o e h3 => s8.block b (.inr ⟨b8 b o e, by omega⟩) h3) s8.size)
  have HX7 : Hid (DX w' g7 d.name (.slice d.ga d.gl.length d.gc) (.slice d.wa d.wl.length d.wc) d.key d.j.kind d.j.parts d.j.need d.j.window) := Lib.hid k7
  have HX8 : Hid (EX w' g8 t1 p1 q (.slice a8 L.length c8)) := Lib.hid k8
  have HQ1 : Hid (WX w' (w.heap.size + 1) 69 [.string op, .string ps, .bool num, .int .i64 pn, .string vs, .slice pa pl.length pc]) := Lib.hid (HQ.out.grow (Tryst2.Grow.below hg (.refl Y.heap.size Y)))
  have HDB : Hid (∃ base, w.heap.size ≤ base ∧ DOB base v2 d ∧ v2.heap.size ≤ w'.heap.size ∧ ∀ b, base ≤ b → b < v2.heap.size → w'.heap[b]? = v2.heap[b]?) := Lib.hid ⟨lo 2, by have := hL 2 (by decide); omega, h2, s2.size, fun b h1 h3 => s2.block b (.inr ⟨h1, by omega⟩) h3⟩
  have hg6 := h2.g6
  have hw7 := h2.w7
  have hwW : w.heap.size + 1 < w'.heap.size := by
   have := (Array.getElem?_eq_some_iff.1 HQ1.out).1
   exact this
  clear hT hL k7 k8 s2 z2 e2 h2 s8 z8 e8 h8 b8 e7 e9 l7 r7 l8 r8 hg hcg hfg hsg hy HX HY CD CE CX HQ HD x1 x2 x3 x4 x5 x6 x7 x8 x17 x18 x19 x20 x21 x0
  clear lo hi tv
  obtain ⟨W1, hW1⟩ : ∃ W, W = w' := ⟨_, rfl⟩
  subst hW1
  obtain ⟨nm, ga, gl, gc, wa, wl, wc, ky, ⟨kd, n0, n1, n2⟩⟩ := d
  unfold DB.agg
  simp only at HX7 hg6 hw7 ⊢
  obtain ⟨x0, x1, x2, x3, x4, x5, x6, x7, x8⟩ := HX7.out.box
  go_upto_region 2 with fail
  refine Tryst4.wp_region_owns [.is (.agg #[.string nm, .slice ga gl.length gc, .slice wa wl.length wc, .string ky, .string kd, .int .i64 n0, .int .i64 n1, .int .i64 n2]), .is (.agg #[.string nm, .slice ga gl.length gc, .slice wa wl.length wc, .string ky, .string kd, .int .i64 n0, .int .i64 n1, .int .i64 n2]), .box 27 8, .box 27 8, .put 2 0 27 8, .put 3 1 27 8] (by kernel_rfl) (by kernel_rfl) (by kernel_rfl) ?obl ?fin
  case obl =>
   simp only [Tryst4.AllObl, Tryst4.Obl, Tryst4.depsS, Tryst4.Rsp.R, Tryst4.Rsp.made, Tryst4.val, YL, YO, Op.operands, Call.operands]
   repeat' apply And.intro
   any_goals trivial
   all_goals (intro tv lo hi w' hg hold hd; (try simp at hold); obtain ⟨hcg, hfg, hsg⟩ := YG hg)
   all_goals first | (go_simp; done) | (rw [allocD _ _ _ rfl, Tryst2.stepV_value]; exact newBoxW _ _ _) | (obtain ⟨⟨g, cs, e1, -, -, e4, e5⟩, e6, -⟩ := hd; exact stored8 (d := ⟨nm, ga, gl, gc, wa, wl, wc, ky, ⟨kd, n0, n1, n2⟩⟩) rfl e6 ⟨g, cs, e1, e4, e5⟩)
  case fin =>
   intro tv w' lo hi hg hR hL hT
   simp only [Tryst4.allT, Tryst4.Rsp.R, Tryst4.val, Nat.reduceAdd, YL, YO] at hR
   simp only [YL, Nat.reduceAdd] at hL hT
   obtain ⟨hcg, hfg, hsg⟩ := YG hg
   simp only [YP, YL, Act.put, hR]
   obtain ⟨hR0, hR1, ⟨gx, csx, ex, lx, rx, -, -⟩, ⟨gy, csy, ey, ly, ry, -, -⟩, ⟨gx', ex', -, -, kx⟩, ⟨gy', ey', -, -, kY⟩, -⟩ := hR
   rw [ex] at ex'
   rw [ey] at ey'
   simp only [Value.pointer.injEq, Option.some.injEq, Addr.mk.injEq, and_true] at ex' ey'
   subst ex' ey'
   simp only [ex, ey]
   rw [hR0] at kx
   rw [hR1] at kY
   have hbW := Tryst2.Grow.below hg (.refl W1.heap.size W1)
   have i2 := hL 2 (by decide)
   have i3 := hL 3 (by decide)
   have T23 := hT 2 3 (by decide) (by decide) (by decide)
   have HXX : Hid (DX w' gx nm (.slice ga gl.length gc) (.slice wa wl.length wc) ky kd n0 n1 n2) := Lib.hid kx
   have HXY : Hid (DX w' gy nm (.slice ga gl.length gc) (.slice wa wl.length wc) ky kd n0 n1 n2) := Lib.hid kY
   have HG : Hid (W1.heap.size ≤ gx ∧ W1.heap.size ≤ gy ∧ gx ≠ gy ∧ gx < w'.heap.size ∧ gy < w'.heap.size) := Lib.hid (by omega)
   have HB2 := Lib.hid hbW
   clear hT hL hR0 hR1 ex ey lx rx ly ry kx kY i2 i3 T23 hg hcg hfg hsg hbW x0 x1 x2 x3 x4 x5 x6 x7 x8
   clear lo hi tv
   obtain ⟨W2, hW2⟩ : ∃ W, W = w' := ⟨_, rfl⟩
   subst hW2
   obtain ⟨x0, x1, x2, x3, x4, x5, x6, x7, x8⟩ := (HX7.out.grow HB2.out).box
   go_upto_region 3 with fail
   have hE0 := ROwn.empty 9 1 W2 W2.heap.size (Nat.le_refl _)
   have hA0 : Below W2.heap.size W2 (W2.alloc (.cells #[] 9)) := balloc _ (.refl _ _)
   obtain ⟨v3, w3, hr3, hg3, ho3⟩ := row_copy strT W2.heap.size W2.heap.size ga (gl.map fun s => [Value.string s]) gl.length gc (by simp) (W2.alloc (.cells #[] 9)) (by simp) hE0 (by intro f hf; obtain ⟨s, _, rfl⟩ := List.mem_map.1 hf; rfl) (by rw [List.length_map]; omega) (Row.grow (strs_row.1 HDO.out.gS) (bstep hA0 HB2.out)) 22
   have HB3 := Lib.hid (bstep hg3 hA0)
   have HO3 := Lib.hid ho3
   clear hE0 hA0 hg3 ho3
   go_wp2_with (at_builtin; refine Go.Lib.wpList_append_run _ rfl _ _ _ _ rfl _ _ rfl rfl v3 w3 hr3 ?_)
   clear hr3 x0 x1 x2 x3 x4 x5 x6 x7 x8
   refine (CG.out _).mono ?_
   rintro e w4 ⟨rfl, rfl⟩
   go_wp2_with (at_builtin; refine wpList_appR strT rfl _ _ rfl W2.heap.size v3 (gl.map fun s => [Value.string s]) gl.length (by simp) rfl (ROwn.alloc HO3.out _) [.string gb1] rfl (by intro u hu; simp at hu; subst hu; rfl) w3.heap.size rfl (by intro j hj; obtain rfl : j = 0 := (by omega); simp) (by omega) (by have := HB3.out.size; simp; omega) ?_; intro v5 w5 ho5 hb5 hs5; obtain ⟨a5, c5, hv5, hR5, hS5, hA5⟩ := ROwn.row ho5 (sv_len gl gb1) (by decide); have hBB : Below W2.heap.size W2 w5 := (balloc _ HB3.out).trans hb5; have HX5 := Lib.hid (HXX.out.grow hBB); obtain ⟨x0, x1, x2, x3, x4, x5, x6, x7, x8⟩ := HX5.out.box; have z1 := HX5.out.fz 1; rw [show (gl.map (fun s => [Value.string s]) ++ [[Value.string gb1]]).length = gl.length + 1 by simp] at hv5 hS5; subst hv5)
   go_upto_region 4 with fail
   refine wp_genC (fun v => Hid (DX v gx nm (.slice a5 (gl ++ [gb1]).length c5) (.slice wa wl.length wc) ky kd n0 n1 n2) ∧ Hid (DX v gy nm (.slice ga gl.length gc) (.slice wa wl.length wc) ky kd n0 n1 n2) ∧ Hid (Strs v a5 (gl ++ [gb1])) ∧ Hid (Below W1.heap.size W1 v)) ?_ ?_
   ·
    have hgg := HG.out
    have hz5 := hBB.size
    have hk : ∀ b, b ≠ gx → (w5.setCell ⟨gx, 1, none⟩ (.slice a5 (gl.length + 1) c5)).heap[b]? = w5.heap[b]? := fun b hb => Below.heap_setCell _ _ _ _ hb
    refine ⟨Lib.hid (by rw [List.length_append]; exact HX5.out.set1 _), (HXY.out.grow hBB).away (fun e => hgg.2.2.1 e) _, Lib.hid (Strs.keepB (strs_row.2 (by rw [List.map_append]; exact hR5)) (fun b o e => hk b (by have := (hA5 b o e).1; omega)) (by simp)), bset _ hgg.1 (bstep hBB HB2.out)⟩
   rintro W3 ⟨HXX3, HXY3, HST, HB3⟩
   have HA5 : Hid (∀ b o, a5 = some ⟨b, o, none⟩ → gy ≠ b) := Lib.hid (fun b o e => by have := (hA5 b o e).1; have := HG.out; omega)
   have HS5 : Hid (Sl a5 c5 (gl ++ [gb1]).length) := Lib.hid (by rw [List.length_append]; exact hS5)
   clear hb5 ho5 hs5 hR5 hS5 hA5 hBB HX5 x0 x1 x2 x3 x4 x5 x6 x7 x8 z1 HO3 HXX HXY CG
   obtain ⟨x0, x1, x2, x3, x4, x5, x6, x7, x8⟩ := (HX7.out.grow HB3.out).box
   have hQ3 := HQ1.out.grow HB3.out
   have q0 := (Array.getElem?_eq_some_iff.1 hQ3).1
   have q1 := hQ3.cell 0 rfl
   have q2 := hQ3.cell 1 rfl
   have q3 := hQ3.cell 2 rfl
   have q4 := hQ3.cell 3 rfl
   have q5 := hQ3.cell 4 rfl
   have q6 := hQ3.cell 5 rfl
   clear hQ3
   have HPR := Lib.hid (Row.grow HDO.out.wR.row HB3.out)
   refine Tryst2.wp_region_grows [.any (EmpW W3.heap.size), .is (.pointer (some ⟨g7, 2, none⟩)), .is (.slice wa wl.length wc), .any (CpW W3.heap.size wl), .is (.agg #[.string op, .string ps, .bool num, .int .i64 pn, .string vs, .slice pa pl.length pc])] (by kernel_rfl) (by kernel_rfl) ?obl ?fin
   case obl =>
    simp only [YA, YL, YO, YR, Op.operands, Call.operands]
    repeat' apply And.intro
    any_goals trivial
    all_goals (intro tv w' hg hold hd; (try simp at hold); obtain ⟨hcg, hfg, hsg⟩ := YG hg)
    all_goals first | (go_simp; done) | (go_simp; rw [if_neg (by omega)]; exact ⟨.refl _, rfl⟩) | (obtain ⟨⟨g, hvg, hgg, hcell⟩, _⟩ := hd; have hcell0 := hcell 0 (by decide); simp at hcell0; go_simp; done) | (go_simp; exact EmpW.of _ _ (by omega)) | (obtain ⟨h1, h2, _⟩ := hd; obtain ⟨g, eg, hgo⟩ := EmpW.at h1; obtain ⟨v', w'', hr, hgr, hov⟩ := row_copy predT W3.heap.size g wa (wl.map PB.cells) wl.length wc (by simp) w' (by omega) hgo (PB.cells_len _) (by rw [List.length_map]; omega) (Row.grow HPR.out (Tryst2.Grow.below hg (.refl W3.heap.size W3))) 23; exact Tryst2.stepV_append _ _ _ _ 23 rfl eg h2 hr ⟨hgr, w'', Tryst2.Grow.refl _, hov⟩)
   case fin =>
    intro tv w' hg hR
    simp only [YF, YL, YR] at hR
    obtain ⟨hcg, hfg, hsg⟩ := YG hg
    simp only [YP, YL, Act.put, hR]
    have ho4 := CpW.at hR.2.2.2.1
    obtain ⟨v4, hv4⟩ : ∃ v4, tv 36 = v4 := ⟨_, rfl⟩
    rw [hv4] at ho4
    simp only [hv4]
    have HO4 := Lib.hid ho4
    have HG4 := Lib.hid (Tryst2.Grow.below hg (.refl W3.heap.size W3))
    have hz4 : W3.heap.size ≤ w'.heap.size := hsg
    clear hg hR hcg hfg hsg ho4 hv4 x0 x1 x2 x3 x4 x5 x6 x7 x8 q0 q1 q2 q3 q4 q5 q6
    have hgy3 := HXY3.out.box.lt
    go_wp2_with fail
    refine (CP.out _ (bstep HG4.out (bstep HB3.out HB.out))).mono ?_
    rintro e w6 ⟨y, rfl, ⟨hyo, hyn⟩, hb6⟩
    have HYO := Lib.hid hyo
    have HB6 := Lib.hid (bstep hb6 HG4.out)
    have HO6 := Lib.hid (ROwn.grow HO4.out hb6)
    have hb6z : w'.heap.size ≤ w6.heap.size := hb6.size
    have hvl : ∀ A n c, v4 = .slice (some A) n c → A.block < w'.heap.size := fun A n c e => (World.ownsRow.lt HO4.out A.block (by rw [e]; rfl)).2
    have HVL := Lib.hid hvl
    clear hyo hb6 hvl HO4 HG4 CP
    obtain ⟨o0, o1, o2, o3, o4, o5, o6, o7⟩ := y
    simp only [PB.op, PB.s, PB.num, PB.n, PB.vs, PB.a, PB.c, PB.l]
    go_upto_region 5 with (at_builtin; refine wpList_appR predT rfl _ _ rfl W3.heap.size v4 (wl.map PB.cells) wl.length (by simp) rfl (ROwn.alloc HO6.out _) [.string o0, .string o1, .bool o2, .int .i64 o3, .string o4, .slice o5 o7.length o6] rfl (by intro u hu; simp at hu; rcases hu with rfl | rfl | rfl | rfl | rfl | rfl <;> rfl) w6.heap.size rfl (by intro j hj; match j, hj with | 0, _ => simp | 1, _ => simp | 2, _ => simp | 3, _ => simp | 4, _ => simp | 5, _ => simp) (by omega) (by simp; omega) ?_; (intro v7 w7 ho7 hb7 hs7; obtain ⟨a7, c7, hv7, hR7, hS7, hA7⟩ := ROwn.row ho7 (pv_len wl ⟨o0, o1, o2, o3, o4, o5, o6, o7⟩) (by decide); have hBB : Below W3.heap.size W3 w7 := (balloc _ HB6.out).trans hb7; have HX7b := Lib.hid (HXY3.out.grow hBB); obtain ⟨x0, x1, x2, x3, x4, x5, x6, x7, x8⟩ := HX7b.out.box; have z2 := HX7b.out.fz 2; rw [show (wl.map PB.cells ++ [[Value.string o0, .string o1, .bool o2, .int .i64 o3, .string o4, .slice o5 o7.length o6]]).length = wl.length + 1 by simp] at hv7 hS7; subst hv7))
    refine wp_genC (fun v => Hid (DX v gx nm (.slice a5 (gl ++ [gb1]).length c5) (.slice wa wl.length wc) ky kd n0 n1 n2) ∧ Hid (DX v gy nm (.slice ga gl.length gc) (.slice a7 (wl ++ [(⟨o0, o1, o2, o3, o4, o5, o6, o7⟩ : PB)]).length c7) ky kd n0 n1 n2) ∧ Hid (Strs v a5 (gl ++ [gb1])) ∧ Hid (Row v a7 6 ((wl ++ [(⟨o0, o1, o2, o3, o4, o5, o6, o7⟩ : PB)]).map PB.cells)) ∧ Hid (POwn v (fun b => W3.heap.size ≤ b) ⟨o0, o1, o2, o3, o4, o5, o6, o7⟩) ∧ Hid (Below W1.heap.size W1 v)) ?_ ?_
    ·
     have hgg := HG.out
     have hz7 := hBB.size
     have hk : ∀ b, b ≠ gy → (w7.setCell ⟨gy, 2, none⟩ (.slice a7 (wl.length + 1) c7)).heap[b]? = w7.heap[b]? := fun b hb => Below.heap_setCell _ _ _ _ hb
     have hsz : (w7.setCell ⟨gy, 2, none⟩ (.slice a7 (wl.length + 1) c7)).heap.size = w7.heap.size := by simp
     refine ⟨(HXX3.out.grow hBB).away (fun e => hgg.2.2.1 e.symm) _, Lib.hid (by rw [List.length_append]; exact HX7b.out.set2 _), Lib.hid (Strs.keepB (HST.out.grow hBB) (fun b o e => hk b (fun h => HA5.out b o e h.symm)) (by rw [hsz]; exact Nat.le_refl _)), Lib.hid (by rw [List.map_append]; exact hR7.block (fun b o e => hk b (by have := (hA7 b o e).1; omega)) (by rw [hsz]; exact Nat.le_refl _)), Lib.hid (HYO.out.keep (fun b hb hl => ⟨(hk b (by omega)).trans ((hs7 b (by simp; omega) (fun A n c e he => by have := HVL.out A n c e; omega)).trans (Below.heap_alloc _ _ _ hl)), by omega⟩) (by rw [hsz]; have := hb7.size; simp at this; omega)), bset _ hgg.2.1 (bstep hBB HB3.out)⟩
    rintro W4 ⟨HXX4, HXY4, HST4, HRW4, HYO4, HB4⟩
    have HA7 : Hid (∀ b o, a7 = some ⟨b, o, none⟩ → gy ≠ b) := Lib.hid (fun b o e => by have := (hA7 b o e).1; omega)
    have HS7 : Hid (Sl a7 c7 (wl ++ [(⟨o0, o1, o2, o3, o4, o5, o6, o7⟩ : PB)]).length) := Lib.hid (by rw [List.length_append]; exact hS7)
    clear hb7 ho7 hs7 hR7 hS7 hA7 hBB HX7b x0 x1 x2 x3 x4 x5 x6 x7 x8 z2 HO6 HB6 HVL hb6z HYO
    obtain ⟨yp, hyp⟩ : ∃ yp : PB, yp = ⟨o0, o1, o2, o3, o4, o5, o6, o7⟩ := ⟨_, rfl⟩
    rw [← hyp] at HXY4 HRW4 HYO4 HS7 hyn
    obtain ⟨x0, x1, x2, x3, x4, x5, x6, x7, x8⟩ := HXY4.out.box
    have z5 := HXY4.out.fz 5
    go_upto_region 6 with fail
    obtain ⟨m0, hm0⟩ : ∃ m0, wrap64 (n0 + 1) = m0 := ⟨_, rfl⟩
    rw [hm0]
    refine wp_genC (fun v => Hid (DX v gx nm (.slice a5 (gl ++ [gb1]).length c5) (.slice wa wl.length wc) ky kd n0 n1 n2) ∧ Hid (DX v gy nm (.slice ga gl.length gc) (.slice a7 (wl ++ [yp]).length c7) ky kd m0 n1 n2) ∧ Hid (DO v ⟨nm, a5, gl ++ [gb1], c5, wa, wl, wc, ky, ⟨kd, n0, n1, n2⟩⟩) ∧ Hid (DO v ⟨nm, ga, gl, gc, a7, wl ++ [yp], c7, ky, ⟨kd, m0, n1, n2⟩⟩) ∧ Hid (Below W1.heap.size W1 v)) ?_ ?_
    ·
     have hgg := HG.out
     have hk : ∀ b, b ≠ gy → (W4.setCell ⟨gy, 5, none⟩ (.int .i64 m0)).heap[b]? = W4.heap[b]? := fun b hb => Below.heap_setCell _ _ _ _ hb
     have hsz : W4.heap.size ≤ (W4.setCell ⟨gy, 5, none⟩ (.int .i64 m0)).heap.size := by simp
     have hBv : Below W1.heap.size W1 (W4.setCell ⟨gy, 5, none⟩ (.int .i64 m0)) := bset _ hgg.2.1 HB4.out
     have hdo := HDO.out.grow hBv
     refine ⟨HXX4.out.away (fun e => hgg.2.2.1 e.symm) _, HXY4.out.set5 m0, Lib.hid ⟨hdo.hn, by show (gl ++ [gb1]).length ≤ 100; rw [List.length_append]; simp; omega, ?_, Strs.keepB HST4.out (fun b o e => hk b (fun h => HA5.out b o e h.symm)) hsz, HS5.out, hdo.hw, hdo.wR, hdo.hk⟩, Lib.hid ⟨hdo.hn, hdo.hg, hdo.hgs, hdo.gS, hdo.gL, by show (wl ++ [yp]).length ≤ 100; rw [List.length_append]; simp; omega, ⟨HRW4.out.block (fun b o e => hk b (fun h => HA7.out b o e h.symm)) hsz, HS7.out, ?_⟩, hdo.hk⟩, hBv⟩
     ·
      intro g hg
      rcases List.mem_append.1 hg with h | h
      ·
       exact hdo.hgs g h
      ·
       rw [List.mem_singleton] at h; subst h; omega
     ·
      intro q hq
      rcases List.mem_append.1 hq with h | h
      ·
       exact hdo.wR.po q h
      ·
       rw [List.mem_singleton] at h; subst h
       exact ⟨HYO4.out.keep (fun b hb _ => ⟨hk b (by omega), trivial⟩) hsz, hyn⟩
    rintro W5 ⟨HX5, HY5, HDX, HDY, HB15⟩
    obtain ⟨gX, hgX⟩ : ∃ gX, gX = gl ++ [gb1] := ⟨_, rfl⟩
    obtain ⟨wX, hwX⟩ : ∃ wX, wX = wl ++ [yp] := ⟨_, rfl⟩
    rw [← hgX] at HX5 HDX
    rw [← hwX] at HY5 HDY
    have HGX := Lib.hid hgX
    have HWX := Lib.hid hwX
    clear hgX hwX
    have HD5 := Lib.hid (HDO.out.grow HB15.out)
    have HF5 := Lib.hid (HF.out.grow HB15.out)
    have H7 := Lib.hid (fun W (hb : Below W5.heap.size W5 W) => (HX7.out.grow (bstep hb HB15.out)).box)
    have H8 := Lib.hid (fun W (hb : Below W5.heap.size W5 W) => (HX8.out.grow (bstep hb HB15.out)).box)
    have HXx := Lib.hid (fun W (hb : Below W5.heap.size W5 W) => (HX5.out.grow hb).box)
    have HYx := Lib.hid (fun W (hb : Below W5.heap.size W5 W) => (HY5.out.grow hb).box)
    have HB5 := Lib.hid (bstep HB15.out HB.out)
    have HMW := Lib.hid (fun W (hb : Below W5.heap.size W5 W) => HM.out W (bstep hb HB5.out))
    have CA9 := Lib.hid (fun W (hb : Below W5.heap.size W5 W) => CA.out W (bstep hb HB5.out))
    have M1 := Lib.hid (fun W (hb : Below W5.heap.size W5 W) => dmay_c ⟨nm, a5, gX, c5, wa, wl, wc, ky, ⟨kd, n0, n1, n2⟩⟩ W (HMW.out W hb) (HDX.out.grow hb))
    have M2 := Lib.hid (fun W (hb : Below W5.heap.size W5 W) => dmay_c ⟨nm, ga, gl, gc, a7, wX, c7, ky, ⟨kd, m0, n1, n2⟩⟩ W (HMW.out W hb) (HDY.out.grow hb))
    have C1 := Lib.hid (fun W (hb : Below W5.heap.size W5 W) => dWants_c ⟨nm, ga, gl, gc, wa, wl, wc, ky, ⟨kd, n0, n1, n2⟩⟩ s1 (Nat.le_trans u3 (by decide)) W (HMW.out W hb) (HD5.out.grow hb))
    have C2 := Lib.hid (fun W (hb : Below W5.heap.size W5 W) => dWants_c ⟨nm, a5, gX, c5, wa, wl, wc, ky, ⟨kd, n0, n1, n2⟩⟩ s1 (Nat.le_trans u3 (by decide)) W (HMW.out W hb) (HDX.out.grow hb))
    have P1 := Lib.hid (fun W (hb : Below W5.heap.size W5 W) => dPart_c ⟨nm, ga, gl, gc, wa, wl, wc, ky, ⟨kd, n0, n1, n2⟩⟩ t1 p1 q a8 L c8 (Nat.le_trans u1 (by decide)) (by omega) W (HMW.out W hb) (HD5.out.grow hb) (HF5.out.grow hb))
    have P2 := Lib.hid (fun W (hb : Below W5.heap.size W5 W) => dPart_c ⟨nm, ga, gl, gc, a7, wX, c7, ky, ⟨kd, m0, n1, n2⟩⟩ t1 p1 q a8 L c8 (Nat.le_trans u1 (by decide)) (by omega) W (HMW.out W hb) (HDY.out.grow hb) (HF5.out.grow hb))
    have hw := wants_more (gb := gb1) (t := s1) (d := ⟨nm, ga, gl, gc, wa, wl, wc, ky, ⟨kd, n0, n1, n2⟩⟩) (x := ⟨nm, a5, gX, c5, wa, wl, wc, ky, ⟨kd, n0, n1, n2⟩⟩) HGX.out
    have hpp := part_more (y := yp) (t := t1) (l := L) (d := ⟨nm, ga, gl, gc, wa, wl, wc, ky, ⟨kd, n0, n1, n2⟩⟩) (x := ⟨nm, ga, gl, gc, a7, wX, c7, ky, ⟨kd, m0, n1, n2⟩⟩) HWX.out
    unfold DB.agg at M1 M2 C1 C2 P1 P2
    simp only at M1 M2 C1 C2 P1 P2
    generalize (mayD ⟨nm, ga, gl, gc, wa, wl, wc, ky, ⟨kd, n0, n1, n2⟩⟩ && wantsD ⟨nm, ga, gl, gc, wa, wl, wc, ky, ⟨kd, n0, n1, n2⟩⟩ s1) = wd at C1 hw
    generalize (mayD ⟨nm, a5, gX, c5, wa, wl, wc, ky, ⟨kd, n0, n1, n2⟩⟩ && wantsD ⟨nm, a5, gX, c5, wa, wl, wc, ky, ⟨kd, n0, n1, n2⟩⟩ s1) = wx at C2 hw
    generalize mayD ⟨nm, a5, gX, c5, wa, wl, wc, ky, ⟨kd, n0, n1, n2⟩⟩ = mx at M1 hw
    generalize partD ⟨nm, ga, gl, gc, wa, wl, wc, ky, ⟨kd, n0, n1, n2⟩⟩ t1 L = pd at P1 hpp
    generalize partD ⟨nm, ga, gl, gc, a7, wX, c7, ky, ⟨kd, m0, n1, n2⟩⟩ t1 L = py at P2 hpp
    generalize mayD ⟨nm, ga, gl, gc, a7, wX, c7, ky, ⟨kd, m0, n1, n2⟩⟩ = my at M2 hpp
    have HWW := Lib.hid hw
    have HP := Lib.hid hpp
    clear HGX HWX hw hpp HDX HDY HD5 HF5 HMW HDO HF HX7 HX8 HX5 HY5 HB15 HST HST4 HRW4 HYO4 HXX4 HXY4 HXX3 HXY3 HS5 HS7 HA5 HA7 HB4 HB3 HB2 HG HPR HDB HQ1 HM CA x0 x1 x2 x3 x4 x5 x6 x7 x8 z5
    have HR5 : Hid (Below W5.heap.size W5 W5) := Lib.hid (.refl _ _)
    obtain ⟨x0, x1, x2, x3, x4, x5, x6, x7, x8⟩ := HXx.out _ HR5.out
    go_wp2_with fail
    refine (M1.out _ HR5.out).mono ?_
    rintro e w6 ⟨rfl, hb6⟩
    have HB6 := Lib.hid hb6
    clear hb6 x0 x1 x2 x3 x4 x5 x6 x7 x8
    cases mx with
    | false =>
     obtain ⟨z0, z1, z2, z3, z4, z5, z6, z7, z8⟩ := H7.out _ HB6.out
     obtain ⟨y0, y1, y2, y3, y4⟩ := H8.out _ HB6.out
     go_wp2_with fail
     refine (P1.out _ HB6.out).mono ?_
     rintro e w8 ⟨rfl, hb8⟩
     have HB8 := Lib.hid (bstep hb8 HB6.out)
     clear hb8 z0 z1 z2 z3 z4 z5 z6 z7 z8 y0 y1 y2 y3 y4
     obtain ⟨z0, z1, z2, z3, z4, z5, z6, z7, z8⟩ := HYx.out _ HB8.out
     go_wp2_with fail
     refine (M2.out _ HB8.out).mono ?_
     rintro e w9 ⟨rfl, hb9⟩
     have HB9 := Lib.hid (bstep hb9 HB8.out)
     clear hb9 HB8 z0 z1 z2 z3 z4 z5 z6 z7 z8
     cases my with
     | false =>
      go_wp2_with fail
      refine (CA9.out _ HB9.out).mono ?_
      rintro e wz ⟨rfl, hbz⟩
      have HBZ := Lib.hid (bstep (bstep hbz HB9.out) HB5.out)
      clear hbz
      go_wp2_with fail
      go_ret
      exact ⟨rfl, HBZ.out⟩
     | true =>
      by_cases hpd : pd < 0
      ·
       go_wp2_with fail
       refine (CA9.out _ HB9.out).mono ?_
       rintro e wz ⟨rfl, hbz⟩
       have HBZ := Lib.hid (bstep (bstep hbz HB9.out) HB5.out)
       clear hbz
       go_wp2_with fail
       go_ret
       exact ⟨rfl, HBZ.out⟩
      ·
       obtain rfl : py = pd := HP.out (by trivial) (by omega)
       obtain ⟨z0, z1, z2, z3, z4, z5, z6, z7, z8⟩ := HYx.out _ HB9.out
       obtain ⟨y0, y1, y2, y3, y4⟩ := H8.out _ HB9.out
       go_wp2_with fail
       refine (P2.out _ HB9.out).mono ?_
       rintro e w10 ⟨rfl, hb10⟩
       have HB10 := Lib.hid (bstep hb10 HB9.out)
       clear hb10 z0 z1 z2 z3 z4 z5 z6 z7 z8 y0 y1 y2 y3 y4
       go_wp2_with fail
       refine (CA9.out _ HB10.out).mono ?_
       rintro e wz ⟨rfl, hbz⟩
       have HBZ := Lib.hid (bstep (bstep hbz HB10.out) HB5.out)
       clear hbz
       go_wp2_with fail
       go_ret
       exact ⟨rfl, HBZ.out⟩
    | true =>
     obtain ⟨z0, z1, z2, z3, z4, z5, z6, z7, z8⟩ := H7.out _ HB6.out
     go_wp2_with fail
     refine (C1.out _ HB6.out).mono ?_
     rintro e w7 ⟨rfl, hb7⟩
     have HB7 := Lib.hid (bstep hb7 HB6.out)
     clear hb7 z0 z1 z2 z3 z4 z5 z6 z7 z8
     cases wd with
     | false =>
      obtain ⟨z0, z1, z2, z3, z4, z5, z6, z7, z8⟩ := H7.out _ HB7.out
      obtain ⟨y0, y1, y2, y3, y4⟩ := H8.out _ HB7.out
      go_wp2_with fail
      refine (P1.out _ HB7.out).mono ?_
      rintro e w8 ⟨rfl, hb8⟩
      have HB8 := Lib.hid (bstep hb8 HB7.out)
      clear hb8 z0 z1 z2 z3 z4 z5 z6 z7 z8 y0 y1 y2 y3 y4
      obtain ⟨z0, z1, z2, z3, z4, z5, z6, z7, z8⟩ := HYx.out _ HB8.out
      go_wp2_with fail
      refine (M2.out _ HB8.out).mono ?_
      rintro e w9 ⟨rfl, hb9⟩
      have HB9 := Lib.hid (bstep hb9 HB8.out)
      clear hb9 HB8 z0 z1 z2 z3 z4 z5 z6 z7 z8
      cases my with
      | false =>
       go_wp2_with fail
       refine (CA9.out _ HB9.out).mono ?_
       rintro e wz ⟨rfl, hbz⟩
       have HBZ := Lib.hid (bstep (bstep hbz HB9.out) HB5.out)
       clear hbz
       go_wp2_with fail
       go_ret
       exact ⟨rfl, HBZ.out⟩
      | true =>
       by_cases hpd : pd < 0
       ·
        go_wp2_with fail
        refine (CA9.out _ HB9.out).mono ?_
        rintro e wz ⟨rfl, hbz⟩
        have HBZ := Lib.hid (bstep (bstep hbz HB9.out) HB5.out)
        clear hbz
        go_wp2_with fail
        go_ret
        exact ⟨rfl, HBZ.out⟩
       ·
        obtain rfl : py = pd := HP.out (by trivial) (by omega)
        obtain ⟨z0, z1, z2, z3, z4, z5, z6, z7, z8⟩ := HYx.out _ HB9.out
        obtain ⟨y0, y1, y2, y3, y4⟩ := H8.out _ HB9.out
        go_wp2_with fail
        refine (P2.out _ HB9.out).mono ?_
        rintro e w10 ⟨rfl, hb10⟩
        have HB10 := Lib.hid (bstep hb10 HB9.out)
        clear hb10 z0 z1 z2 z3 z4 z5 z6 z7 z8 y0 y1 y2 y3 y4
        go_wp2_with fail
        refine (CA9.out _ HB10.out).mono ?_
        rintro e wz ⟨rfl, hbz⟩
        have HBZ := Lib.hid (bstep (bstep hbz HB10.out) HB5.out)
        clear hbz
        go_wp2_with fail
        go_ret
        exact ⟨rfl, HBZ.out⟩
     | true =>
      obtain rfl : wx = true := HWW.out (by trivial) (by trivial)
      obtain ⟨x0, x1, x2, x3, x4, x5, x6, x7, x8⟩ := HXx.out _ HB7.out
      go_wp2_with fail
      refine (C2.out _ HB7.out).mono ?_
      rintro e w77 ⟨rfl, hb77⟩
      have HB77 := Lib.hid (bstep hb77 HB7.out)
      clear hb77 x0 x1 x2 x3 x4 x5 x6 x7 x8
      obtain ⟨z0, z1, z2, z3, z4, z5, z6, z7, z8⟩ := H7.out _ HB77.out
      obtain ⟨y0, y1, y2, y3, y4⟩ := H8.out _ HB77.out
      go_wp2_with fail
      refine (P1.out _ HB77.out).mono ?_
      rintro e w8 ⟨rfl, hb8⟩
      have HB8 := Lib.hid (bstep hb8 HB77.out)
      clear hb8 z0 z1 z2 z3 z4 z5 z6 z7 z8 y0 y1 y2 y3 y4
      obtain ⟨z0, z1, z2, z3, z4, z5, z6, z7, z8⟩ := HYx.out _ HB8.out
      go_wp2_with fail
      refine (M2.out _ HB8.out).mono ?_
      rintro e w9 ⟨rfl, hb9⟩
      have HB9 := Lib.hid (bstep hb9 HB8.out)
      clear hb9 HB8 z0 z1 z2 z3 z4 z5 z6 z7 z8
      cases my with
      | false =>
       go_wp2_with fail
       refine (CA9.out _ HB9.out).mono ?_
       rintro e wz ⟨rfl, hbz⟩
       have HBZ := Lib.hid (bstep (bstep hbz HB9.out) HB5.out)
       clear hbz
       go_wp2_with fail
       go_ret
       exact ⟨rfl, HBZ.out⟩
      | true =>
       by_cases hpd : pd < 0
       ·
        go_wp2_with fail
        refine (CA9.out _ HB9.out).mono ?_
        rintro e wz ⟨rfl, hbz⟩
        have HBZ := Lib.hid (bstep (bstep hbz HB9.out) HB5.out)
        clear hbz
        go_wp2_with fail
        go_ret
        exact ⟨rfl, HBZ.out⟩
       ·
        obtain rfl : py = pd := HP.out (by trivial) (by omega)
        obtain ⟨z0, z1, z2, z3, z4, z5, z6, z7, z8⟩ := HYx.out _ HB9.out
        obtain ⟨y0, y1, y2, y3, y4⟩ := H8.out _ HB9.out
        go_wp2_with fail
        refine (P2.out _ HB9.out).mono ?_
        rintro e w10 ⟨rfl, hb10⟩
        have HB10 := Lib.hid (bstep hb10 HB9.out)
        clear hb10 z0 z1 z2 z3 z4 z5 z6 z7 z8 y0 y1 y2 y3 y4
        go_wp2_with fail
        refine (CA9.out _ HB10.out).mono ?_
        rintro e wz ⟨rfl, hbz⟩
        have HBZ := Lib.hid (bstep (bstep hbz HB10.out) HB5.out)
        clear hbz
        go_wp2_with fail
        go_ret
        exact ⟨rfl, HBZ.out⟩
end Go.Proofs.YtmlbdblnmbmnpaaGreatDoor
