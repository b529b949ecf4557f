/- pred.ask; holds by its method. -/
import Derived.Test.YtmmdblpoecidaaaDoorProg
import Derived.WalkKit
import Derived.WalkSpells
import Derived.WalkLawsBesides
import Derived.Lib.Hide
import Derived.Deep.RegionWith
import Derived.Deep.Cut
import Derived.IntWalk
import Derived.Test.YtmmdblpoecidaaaDoorMay5
import Derived.Test.YtmmdblpoecidaaaDoorMapS
import Derived.Test.YtmmdblpoecidaaaDoorEvA
set_option linter.unusedVariables false
set_option linter.unusedSimpArgs false
namespace Tryst
open Go Go.RowKit Go.Maps
theorem wpList_insS {P : Program} {k e t : TypeId} {w : World} {b n : Nat} {z : Value} {f : List UInt8 → Value} {p : List UInt8 → Bool} {ops : Array Oper} {rest : List Oper} {o : Oper} {a : Act} {Q : Exit → Act → World → Prop} (hg : o.guard = none) (m x y : Operand) (hop : o.op = Op.insert t m x y)
    (h : MapS P k w b n z f p) (hk : P.underlying k = some .string) (ht : P.underlying t = some (.map k e)) (hn : n < maxLen) (hm : a.eval m = .map (some b)) {s : ByteArray} (hs : s.size ≤ maxLen) (hx : a.eval x = .string s) {v : Value} (hy : a.eval y = v)
    (hK : ∀ w', MapS P k w' b (n + 1) z (fun l => if l = s.data.toList then v else f l) (fun l => decide (l = s.data.toList) || p l) → w.grownBy w' (some b) → wpList P ops Q rest (a.put o.dst undef) w') : wpList P ops Q (o :: rest) a w := by
  refine wpList_plain hg fun K' hK' => ?_
  obtain ⟨w', hrun, h1, h2⟩ := h.put hk ht hn hs v
  unfold Oper.wp
  simp [execOp, hop, hm, hx, hy, hrun, Result.andThen]
  exact hK' _ _ (hK w' h1 h2)
end Tryst
namespace Go.Proofs.YtmmdblpoecidaaaDoor
open Go.RowKit Tryst
set_option maxHeartbeats 400000
set_option maxRecDepth 20000
def numK : Opk → Nat
  | .all => 40
  | .topic => 41
  | .has => 42
  | .eq => 43
  | .lt => 44
  | .not => 45
  | .and => 46
  | .or => 47
def fnV (g : Nat) (k : Opk) : Value := .func (.func (numK k)) #[.pointer (some ⟨g, 0, none⟩)] #[]
/-- the asker's five cells -/
structure AB (w v : World) (g : Nat) (t p : ByteArray) (q : Int) (u fv : Value) : Prop where
  e : EAt v g t p q u
  c4 : v.cell? ⟨g, 4, none⟩ = some fv
  f4 : v.frozen? ⟨g, 4, none⟩ = false
  k : Below w.heap.size w v
  z : g < v.heap.size
theorem AB.turn {w v v' : World} {g mb : Nat} {t p : ByteArray} {q : Int} {u fv : Value} (h : Hid (AB w v g t p q u fv)) (hg : v.grownBy v' (some mb)) (hn : g ≠ mb) (hw : w.heap.size ≤ mb) : Hid (AB w v' g t p q u fv) := by
  obtain ⟨e, c4, f4, k, z⟩ := h.out
  have hc : ∀ o, v'.cell? ⟨g, o, none⟩ = v.cell? ⟨g, o, none⟩ := fun o => World.cell?_of_block (w := v) (a := ⟨g, o, none⟩) (hg.block g z (by simp only [ne_eq, Option.some.injEq]; omega))
  have hf : ∀ o, v'.frozen? ⟨g, o, none⟩ = v.frozen? ⟨g, o, none⟩ := fun o => World.frozen?_of_block (w := v) (a := ⟨g, o, none⟩) (hg.block g z (by simp only [ne_eq, Option.some.injEq]; omega))
  obtain ⟨h1, h2, h3, h4, g1, g2, g3, g4⟩ := e
  exact ⟨⟨by rw [hc]; exact h1, by rw [hc]; exact h2, by rw [hc]; exact h3, by rw [hc]; exact h4, by rw [hf]; exact g1, by rw [hf]; exact g2, by rw [hf]; exact g3, by rw [hf]; exact g4⟩, by rw [hc]; exact c4, by rw [hf]; exact f4, k.grown hg (by have := k.size; omega) (fun j hj => by cases hj; exact hw), Nat.lt_of_lt_of_le z hg.size⟩
/-- block g asks of an event: its methods lie in the map mb -/
structure AskAt (v : World) (g mb : Nat) (t p : ByteArray) (q : Int) (u : Value) : Prop where
  e : EAt v g t p q u
  c4 : v.cell? ⟨g, 4, none⟩ = some (.map (some mb))
  z : g < v.heap.size
  m : ∃ F S n, MapS Tryd.prog 9 v mb n .nilFunc F S ∧ ∀ k : Opk, F k.text.data.toList = fnV g k
theorem AskAt.grow {v v' : World} {g mb : Nat} {t p : ByteArray} {q : Int} {u : Value} (h : AskAt v g mb t p q u) (hb : Below v.heap.size v v') : AskAt v' g mb t p q u := by
  obtain ⟨F, S, n, h1, h2⟩ := h.m
  exact ⟨h.e.grow h.z hb, by rw [hb.cell (p := ⟨g, 4, none⟩) h.z]; exact h.c4, Nat.lt_of_lt_of_le h.z hb.size, F, S, n, h1.grow hb, h2⟩
def AskR (w : World) (t p : ByteArray) (q : Int) (u : Value) (e : Ending) (w' : World) : Prop := ∃ g mb, e = .returned (.pointer (some ⟨g, 0, none⟩)) ∧ AskAt w' g mb t p q u ∧ Below w.heap.size w w'
set_option maxHeartbeats 2000000 in
theorem ask_c (t p : ByteArray) (q : Int) (a : Option Addr) (len c : Nat) (w : World) :
    Calls Tryd.prog 27 #[.agg #[.string t, .string p, .int .u64 q, .slice a len c]] w fun e w' => AskR w t p q (.slice a len c) e w' := by
  have hmm := @run_makeMap Tryd.prog
  have hmf : ∀ (fn : Fn) (first cap : Array Value) (w : World), (Instr.makeFunc fn first cap).run Tryd.prog w = .ok (.func fn first cap) w := fun _ _ _ _ => rfl
  have m0 := Lib.hid (MapS.made Tryd.prog 9 ((w.alloc (.cells #[.string t, .string p, .int .u64 q, .slice a len c] 30)).alloc (.cells #[.string t, .string p, .int .u64 q, .slice a len c, .map none] 86)) .nilFunc)
  have HAB : Hid (AB w ((w.alloc (.cells #[.string t, .string p, .int .u64 q, .slice a len c] 30)).alloc (.cells #[.string t, .string p, .int .u64 q, .slice a len c, .map none] 86)) (w.heap.size + 1) t p q (.slice a len c) (.map none)) := Lib.hid ⟨by constructor <;> simp [go_sem], by simp [go_sem], by simp [go_sem], balloc _ (balloc _ (.refl _ _)), by simp⟩
  go_enter Tryd.func27, Tryd.ntmps27
  go_upto_region 2 with fail
  revert m0 HAB
  generalize hX : (w.alloc (.cells #[.string t, .string p, .int .u64 q, .slice a len c] 30)).alloc (.cells #[.string t, .string p, .int .u64 q, .slice a len c, .map none] 86) = X
  have hXz : X.heap.size = w.heap.size + 2 := by rw [← hX]; simp
  clear hX
  intro m0 HAB
  have HX := Lib.hid hXz
  obtain ⟨mb, hmb⟩ : ∃ mb, X.heap.size = mb := ⟨_, rfl⟩
  have hmb2 : mb = w.heap.size + 2 := by omega
  have hmw : w.heap.size ≤ mb := by omega
  have hmg : w.heap.size + 1 ≠ mb := by omega
  have m1 := m0.out
  rw [hmb] at m1
  have HAB1 : Hid (AB w (X.alloc (.map #[] 0)) (w.heap.size + 1) t p q (.slice a len c) (.map none)) := by
    obtain ⟨e, c4, f4, k, z⟩ := HAB.out
    have hb : Below X.heap.size X (X.alloc (.map #[] 0)) := balloc _ (.refl _ _)
    exact ⟨e.grow z hb, by rw [hb.cell (p := ⟨w.heap.size + 1, 4, none⟩) z]; exact c4, by rw [hb.frozen (p := ⟨w.heap.size + 1, 4, none⟩) z]; exact f4, bstep hb k, Nat.lt_of_lt_of_le z hb.size⟩
  have HMB := Lib.hid hmb
  clear m0 HAB hXz HX hmb2
  go_wp2_with ((try simp only [hmb]); refine wpList_insS rfl _ _ _ rfl (by assumption) Tryd.underlying9 Tryd.underlying84 (by unfold maxLen; omega) rfl (s := _) (by unfold maxLen; decide) rfl rfl ?_; intro w' hm' hg'; have hab' := AB.turn (by assumption) hg' hmg hmw; have c4' := hab'.out.c4; have f4' := hab'.out.f4)
  go_ret
  rename_i w8 hmL hgL
  refine ⟨w.heap.size + 1, mb, rfl, ⟨?_, ?_, ?_, ?_⟩, ?_⟩
  · obtain ⟨⟨h1, h2, h3, h4, g1, g2, g3, g4⟩, _⟩ := hab'.out
    constructor <;> simp [cell_setCell, frozen_setCell, h1, h2, h3, h4, g1, g2, g3, g4]
  · have hz := hab'.out.z
    simp [cell_setCell, hz, c4']
  · simpa using hab'.out.z
  · exact ⟨_, _, _, hm'.away (by omega) _, fun k => by cases k <;> rfl⟩
  · exact bset _ (by show w.heap.size ≤ w.heap.size + 1; omega) hab'.out.k
theorem callK (k : Opk) (args : Array Value) (w : World) : (callFunc (numK k) args).run Tryd.prog w = .ok (.enter (numK k) args) w := by
  cases k
  all_goals
    unfold numK
    first | (simp [go_sem]; done) | kernel_rfl | rfl
/-- a predicate's own method is asked -/
theorem holds_via (k : Opk) (s : ByteArray) (num : Bool) (n : Int) (vs : ByteArray) (a : Option Addr) (c : Nat) (len : Nat) (g mb : Nat) (t p : ByteArray) (q : Int) (u : Value) (X : Bool) (w : World) (hA : AskAt w g mb t p q u)
    (hm : ∀ W, Below w.heap.size w W → Calls Tryd.prog (numK k) #[.pointer (some ⟨g, 0, none⟩), .agg #[.string k.text, .string s, .bool num, .int .i64 n, .string vs, .slice a len c]] W fun e w' => e = .returned (.bool X) ∧ Below W.heap.size W w') :
    Calls Tryd.prog 28 #[.pointer (some ⟨g, 0, none⟩), .agg #[.string k.text, .string s, .bool num, .int .i64 n, .string vs, .slice a len c]] w fun e w' => e = .returned (.bool X) ∧ Below w.heap.size w w' := by
  have HM := Lib.hid hm
  have HA := Lib.hid hA
  have hks : k.text.size ≤ maxLen := by unfold maxLen; cases k <;> decide
  obtain ⟨o, ho⟩ : ∃ o, k.text = o := ⟨_, rfl⟩
  have HO := Lib.hid ho
  clear hm hA
  go_enter Tryd.func28, Tryd.ntmps28
  rw [ho] at HM hks
  simp only [ho]
  clear ho
  go_upto_region 1 with fail
  refine wp_genC (fun v => Hid (PBox v w.heap.size o s num n vs (.slice a len c)) ∧ Hid (Below w.heap.size w v) ∧ Hid (AskAt v g mb t p q u)) ⟨PBox.new w o s num n vs (.slice a len c) 26, balloc _ (.refl _ _), HA.out.grow (balloc _ (.refl _ _))⟩ ?_
  rintro Y ⟨HX, HB, HY⟩
  generalize w.heap.size = B at HX ⊢
  obtain ⟨x0, x1, x2, x3, x4, x5, x6⟩ := HX.out
  have z0 := HY.out.c4
  have z1 := HY.out.z
  have HMF := Lib.hid HY.out.m
  refine Tryst2.wp_region_grows [.is (.pointer (some ⟨g, 0, none⟩)), .is (.pointer (some ⟨g, 0, none⟩)), .is (.pointer (some ⟨g, 4, none⟩)), .is (.map (some mb)), .is (.pointer (some ⟨B, 0, none⟩)), .is (.string o), .is (fnV g k), .is (.agg #[.string o, .string s, .bool num, .int .i64 n, .string vs, .slice a len c]), .is (.bool X)] (by kernel_rfl) (by kernel_rfl) ?obl ?fin
  case obl =>
    simp only [Tryst2.AllObl, Tryst2.dstL, Tryst2.Obl, Tryst2.depsOf, Tryst2.binds_data, Tryst2.binds_chain, Tryst2.binds_phase, Tryst2.binds_guard, Tryst2.binds_text, Tryst2.binds_gc, Bool.false_eq_true, if_false, List.filterMap_cons_some, List.filterMap_cons_none, Tryst2.depsR, Tryst2.holdR, Tryst2.tmpsOf, Op.operands, Call.operands, Tryst2.Rsp.pred, Tryst2.wantedV_none, Tryst2.wantedV_some, if_true, List.map_cons, List.map_nil, List.length_map, List.take_succ_cons, List.take_zero, List.length_cons, List.length_nil, List.getElem?_cons_zero, List.getElem?_cons_succ, Option.bind_some, id, List.getD_cons_zero, List.getD_cons_succ, Tryst2.isDst, List.filterMap_cons, List.filterMap_nil, List.toList_toArray]
    repeat' apply And.intro
    any_goals trivial
    all_goals (intro tv w' hg hold hd; (try simp at hold); obtain ⟨hcg, hfg⟩ := Tryst2.Grow.cells hg; have hsg := Tryst2.Grow.le hg)
    all_goals first | (go_simp; done) | (go_simp; rw [if_neg (by omega)]; exact ⟨.refl _, rfl⟩) | (obtain ⟨⟨g, hvg, hgg, hcell⟩, _⟩ := hd; have hcell0 := hcell 0 (by decide); simp at hcell0; go_simp; done) | (obtain ⟨F, S, m, h1, h2⟩ := HMF.out; have hlk := (h1.grow (Tryst2.Grow.below hg (.refl Y.heap.size Y))).look (t := 84) Tryd.underlying9 Tryd.underlying84 (by kernel_rfl) hks; rw [← HO.out, h2 k, HO.out] at hlk; go_simp; done) | (unfold fnV at *; go_simp; rw [callK]; go_simp; refine (HM.out _ ?_).mono ?_; (exact bstep (Tryst2.Grow.below hg (.refl Y.heap.size Y)) HB.out); rintro e w2 ⟨rfl, hb2⟩; exact ⟨hb2, rfl⟩)
  case fin =>
    intro tv w' hg hR
    simp only [Tryst2.allR, Tryst2.dstL, Tryst2.Rsp.pred, List.map_cons, List.map_nil, List.take_succ_cons, List.take_zero, List.length_cons, List.length_nil, List.tail_cons, List.toList_toArray] at hR
    obtain ⟨hcg, hfg⟩ := Tryst2.Grow.cells hg
    have hsg := Tryst2.Grow.le hg
    simp only [Tryst2.putAll, Tryst2.dstL, List.map_cons, List.map_nil, List.take_succ_cons, List.take_zero, List.length_cons, List.length_nil, List.toList_toArray, List.drop_succ_cons, List.drop_zero, Act.put, List.setIfInBounds_toArray, List.set_cons_zero, List.set_cons_succ, hR]
    have HB9 := Lib.hid (bstep (Tryst2.Grow.below hg (.refl Y.heap.size Y)) HB.out)
    clear hg hR hcg hfg hsg
    go_wp2_with fail
    go_ret
    exact ⟨rfl, HB9.out⟩
end Go.Proofs.YtmmdblpoecidaaaDoor
