/- pred.Holds of any predicate: the methods; awake. -/
import Derived.Test.YtmlbdblnmbmnpaaGreatDoorProg
import Derived.WalkKit
import Derived.WalkSpells
import Derived.WalkLawsBesides
import Derived.Lib.Hide
import Derived.Deep.RegionWith
import Derived.Deep.Cut
import Derived.IntWalk
import Derived.Test.YtmlbdblnmbmnpaaGreatDoorMay5
import Derived.Test.YtmlbdblnmbmnpaaGreatDoorMapS
import Derived.Test.YtmlbdblnmbmnpaaGreatDoorEvAC
import Derived.Test.YtmlbdblnmbmnpaaGreatDoorNumV
import Derived.Test.YtmlbdblnmbmnpaaGreatDoorPuts4
import Derived.Test.YtmlbdblnmbmnpaaGreatDoorRdAB
import Derived.Test.YtmlbdblnmbmnpaaGreatDoorMeets5
import Derived.Test.YtmlbdblnmbmnpaaGreatDoorPars5
import Derived.Test.YtmlbdblnmbmnpaaGreatDoorPrF
set_option linter.unusedVariables false
set_option linter.unusedSimpArgs false
namespace Tryst
open Go Go.RowKit Go.Maps
theorem wpList_insS {P : Program} {k e t : TypeId} {w : World} {b n : Nat} {z : Value} {f : List UInt8 → Value} {p : List UInt8 → Bool} {ops : Array Oper} {rest : List Oper} {o : Oper} {a : Act} {Q : Exit → Act → World → Prop} (hg : o.guard = none) (m x y : Operand) (hop : o.op = Op.insert t m x y)
  (h : MapS P k w b n z f p) (hk : P.underlying k = some .string) (ht : P.underlying t = some (.map k e)) (hn : n < maxLen) (hm : a.eval m = .map (some b)) {s : ByteArray} (hs : s.size ≤ maxLen) (hx : a.eval x = .string s) {v : Value} (hy : a.eval y = v)
  (hK : ∀ w', MapS P k w' b (n + 1) z (fun l => if l = s.data.toList then v else f l) (fun l => decide (l = s.data.toList) || p l) → w.grownBy w' (some b) → wpList P ops Q rest (a.put o.dst undef) w') : wpList P ops Q (o :: rest) a w := by
 refine wpList_plain hg fun K' hK' => ?_
 obtain ⟨w', hrun, h1, h2⟩ := h.put hk ht hn hs v
 unfold Oper.wp
 simp [execOp, hop, hm, hx, hy, hrun, Result.andThen]
 exact hK' _ _ (hK w' h1 h2)
end Tryst
namespace Go.Proofs.YtmlbdblnmbmnpaaGreatDoor
open Go.RowKit Tryst
set_option maxHeartbeats 400000
set_option maxRecDepth 20000
def numK : Opk → Nat
 | .all => 118
 | .topic => 119
 | .has => 120
 | .eq => 121
 | .lt => 122
 | .not => 123
 | .and => 124
 | .or => 125
def fnV (g : Nat) (k : Opk) : Value := .func (.func (numK k)) #[.pointer (some ⟨g, 0, none⟩)] #[]
/-- the asker's five cells -/
structure AB (w v : World) (g : Nat) (t p : ByteArray) (q : Int) (u fv : Value) : Prop where
 e : EAt v g t p q u
 c4 : v.cell? ⟨g, 4, none⟩ = some fv
 f4 : v.frozen? ⟨g, 4, none⟩ = false
 k : Below w.heap.size w v
 z : g < v.heap.size
theorem AB.turn {w v v' : World} {g mb : Nat} {t p : ByteArray} {q : Int} {u fv : Value} (h : Hid (AB w v g t p q u fv)) (hg : v.grownBy v' (some mb)) (hn : g ≠ mb) (hw : w.heap.size ≤ mb) : Hid (AB w v' g t p q u fv) := by
 obtain ⟨e, c4, f4, k, z⟩ := h.out
 have hc : ∀ o, v'.cell? ⟨g, o, none⟩ = v.cell? ⟨g, o, none⟩ := fun o => World.cell?_of_block (w := v) (a := ⟨g, o, none⟩) (hg.block g z (by simp only [ne_eq, Option.some.injEq]; omega))
 have hf : ∀ o, v'.frozen? ⟨g, o, none⟩ = v.frozen? ⟨g, o, none⟩ := fun o => World.frozen?_of_block (w := v) (a := ⟨g, o, none⟩) (hg.block g z (by simp only [ne_eq, Option.some.injEq]; omega))
 obtain ⟨h1, h2, h3, h4, g1, g2, g3, g4⟩ := e
 exact ⟨⟨by rw [hc]; exact h1, by rw [hc]; exact h2, by rw [hc]; exact h3, by rw [hc]; exact h4, by rw [hf]; exact g1, by rw [hf]; exact g2, by rw [hf]; exact g3, by rw [hf]; exact g4⟩, by rw [hc]; exact c4, by rw [hf]; exact f4, k.grown hg (by have := k.size; omega) (fun j hj => by cases hj; exact hw), Nat.lt_of_lt_of_le z hg.size⟩
/-- block g asks of an event: its methods lie in the map mb -/
structure AskAt (v : World) (g mb : Nat) (t p : ByteArray) (q : Int) (u : Value) : Prop where
 e : EAt v g t p q u
 c4 : v.cell? ⟨g, 4, none⟩ = some (.map (some mb))
 z : g < v.heap.size
 m : ∃ F S n, MapS Tryz.prog 9 v mb n .nilFunc F S ∧ ∀ k : Opk, F k.text.data.toList = fnV g k
theorem AskAt.grow {v v' : World} {g mb : Nat} {t p : ByteArray} {q : Int} {u : Value} (h : AskAt v g mb t p q u) (hb : Below v.heap.size v v') : AskAt v' g mb t p q u := by
 obtain ⟨F, S, n, h1, h2⟩ := h.m
 exact ⟨h.e.grow h.z hb, by rw [hb.cell (p := ⟨g, 4, none⟩) h.z]; exact h.c4, Nat.lt_of_lt_of_le h.z hb.size, F, S, n, h1.grow hb, h2⟩
def AskR (w : World) (t p : ByteArray) (q : Int) (u : Value) (e : Ending) (w' : World) : Prop := ∃ g mb, e = .returned (.pointer (some ⟨g, 0, none⟩)) ∧ AskAt w' g mb t p q u ∧ Below w.heap.size w w'
set_option maxHeartbeats 2000000 in
theorem ask_c (t p : ByteArray) (q : Int) (a : Option Addr) (len c : Nat) (w : World) :
  Calls Tryz.prog 100 #[.agg #[.string t, .string p, .int .u64 q, .slice a len c]] w fun e w' => AskR w t p q (.slice a len c) e w' := by
 have hmm := @run_makeMap Tryz.prog
 have hmf : ∀ (fn : Fn) (first cap : Array Value) (w : World), (Instr.makeFunc fn first cap).run Tryz.prog w = .ok (.func fn first cap) w := fun _ _ _ _ => rfl
 have m0 := Lib.hid (MapS.made Tryz.prog 9 ((w.alloc (.cells #[.string t, .string p, .int .u64 q, .slice a len c] 63)).alloc (.cells #[.string t, .string p, .int .u64 q, .slice a len c, .map none] 155)) .nilFunc)
 have HAB : Hid (AB w ((w.alloc (.cells #[.string t, .string p, .int .u64 q, .slice a len c] 63)).alloc (.cells #[.string t, .string p, .int .u64 q, .slice a len c, .map none] 155)) (w.heap.size + 1) t p q (.slice a len c) (.map none)) := Lib.hid ⟨by constructor <;> simp [go_sem], by simp [go_sem], by simp [go_sem], balloc _ (balloc _ (.refl _ _)), by simp⟩
 go_enter Tryz.func100, Tryz.ntmps100
 go_upto_region 2 with fail
 revert m0 HAB
 generalize hX : (w.alloc (.cells #[.string t, .string p, .int .u64 q, .slice a len c] 63)).alloc (.cells #[.string t, .string p, .int .u64 q, .slice a len c, .map none] 155) = X
 have hXz : X.heap.size = w.heap.size + 2 := by rw [← hX]; simp
 clear hX
 intro m0 HAB
 have HX := Lib.hid hXz
 obtain ⟨mb, hmb⟩ : ∃ mb, X.heap.size = mb := ⟨_, rfl⟩
 have hmb2 : mb = w.heap.size + 2 := by omega
 have hmw : w.heap.size ≤ mb := by omega
 have hmg : w.heap.size + 1 ≠ mb := by omega
 have m1 := m0.out
 rw [hmb] at m1
 have HAB1 : Hid (AB w (X.alloc (.map #[] 0)) (w.heap.size + 1) t p q (.slice a len c) (.map none)) := by
  obtain ⟨e, c4, f4, k, z⟩ := HAB.out
  have hb : Below X.heap.size X (X.alloc (.map #[] 0)) := balloc _ (.refl _ _)
  exact ⟨e.grow z hb, by rw [hb.cell (p := ⟨w.heap.size + 1, 4, none⟩) z]; exact c4, by rw [hb.frozen (p := ⟨w.heap.size + 1, 4, none⟩) z]; exact f4, bstep hb k, Nat.lt_of_lt_of_le z hb.size⟩
 have HMB := Lib.hid hmb
 clear m0 HAB hXz HX hmb2
 go_wp2_with ((try simp only [hmb]); refine wpList_insS rfl _ _ _ rfl (by assumption) Tryz.underlying9 Tryz.underlying153 (by unfold maxLen; omega) rfl (s := _) (by unfold maxLen; decide) rfl rfl ?_; intro w' hm' hg'; have hab' := AB.turn (by assumption) hg' hmg hmw; have c4' := hab'.out.c4; have f4' := hab'.out.f4)
 go_ret
 rename_i w8 hmL hgL
 refine ⟨w.heap.size + 1, mb, rfl, ⟨?_, ?_, ?_, ?_⟩, ?_⟩
 ·
  obtain ⟨⟨h1, h2, h3, h4, g1, g2, g3, g4⟩, _⟩ := hab'.out
  constructor <;> simp [cell_setCell, frozen_setCell, h1, h2, h3, h4, g1, g2, g3, g4]
 ·
  have hz := hab'.out.z
  simp [cell_setCell, hz, c4']
 ·
  simpa using hab'.out.z
 ·
  exact ⟨_, _, _, hm'.away (by omega) _, fun k => by cases k <;> rfl⟩
 ·
  exact bset _ (by show w.heap.size ≤ w.heap.size + 1; omega) hab'.out.k
theorem callK (k : Opk) (args : Array Value) (w : World) : (callFunc (numK k) args).run Tryz.prog w = .ok (.enter (numK k) args) w := by
 cases k
 all_goals
  unfold numK
  first | (simp [go_sem]; done) | kernel_rfl | rfl
/-- a predicate's own method is asked -/
theorem holds_via (k : Opk) (s : ByteArray) (num : Bool) (n : Int) (vs : ByteArray) (a : Option Addr) (c : Nat) (len : Nat) (g mb : Nat) (t p : ByteArray) (q : Int) (u : Value) (X : Bool) (w : World) (hA : AskAt w g mb t p q u)
  (hm : ∀ W, Below w.heap.size w W → Calls Tryz.prog (numK k) #[.pointer (some ⟨g, 0, none⟩), .agg #[.string k.text, .string s, .bool num, .int .i64 n, .string vs, .slice a len c]] W fun e w' => e = .returned (.bool X) ∧ Below W.heap.size W w') :
  Calls Tryz.prog 101 #[.pointer (some ⟨g, 0, none⟩), .agg #[.string k.text, .string s, .bool num, .int .i64 n, .string vs, .slice a len c]] w fun e w' => e = .returned (.bool X) ∧ Below w.heap.size w w' := by
 have HM := Lib.hid hm
 have HA := Lib.hid hA
 have hks : k.text.size ≤ maxLen := by unfold maxLen; cases k <;> decide
 obtain ⟨o, ho⟩ : ∃ o, k.text = o := ⟨_, rfl⟩
 have HO := Lib.hid ho
 clear hm hA
 go_enter Tryz.func101, Tryz.ntmps101
 rw [ho] at HM hks
 simp only [ho]
 clear ho
 go_upto_region 1 with fail
 refine wp_genC (fun v => Hid (PBox v w.heap.size o s num n vs (.slice a len c)) ∧ Hid (Below w.heap.size w v) ∧ Hid (AskAt v g mb t p q u)) ⟨PBox.new w o s num n vs (.slice a len c) 69, balloc _ (.refl _ _), HA.out.grow (balloc _ (.refl _ _))⟩ ?_
 rintro Y ⟨HX, HB, HY⟩
 generalize w.heap.size = B at HX ⊢
 obtain ⟨x0, x1, x2, x3, x4, x5, x6⟩ := HX.out
 have z0 := HY.out.c4
 have z1 := HY.out.z
 have HMF := Lib.hid HY.out.m
 refine Tryst2.wp_region_grows [.is (.pointer (some ⟨g, 0, none⟩)), .is (.pointer (some ⟨g, 0, none⟩)), .is (.pointer (some ⟨g, 4, none⟩)), .is (.map (some mb)), .is (.pointer (some ⟨B, 0, none⟩)), .is (.string o), .is (fnV g k), .is (.agg #[.string o, .string s, .bool num, .int .i64 n, .string vs, .slice a len c]), .is (.bool X)] (by kernel_rfl) (by kernel_rfl) ?obl ?fin
 case obl =>
  simp only [YA, YL, YO, YR, Op.operands, Call.operands]
  repeat' apply And.intro
  any_goals trivial
  all_goals (intro tv w' hg hold hd; (try simp at hold); obtain ⟨hcg, hfg, hsg⟩ := YG hg)
  all_goals first | (go_simp; done) | (go_simp; rw [if_neg (by omega)]; exact ⟨.refl _, rfl⟩) | (obtain ⟨⟨g, hvg, hgg, hcell⟩, _⟩ := hd; have hcell0 := hcell 0 (by decide); simp at hcell0; go_simp; done) | (obtain ⟨F, S, m, h1, h2⟩ := HMF.out; have hlk := (h1.grow (Tryst2.Grow.below hg (.refl Y.heap.size Y))).look (t := 153) Tryz.underlying9 Tryz.underlying153 (by kernel_rfl) hks; rw [← HO.out, h2 k, HO.out] at hlk; go_simp; done) | (unfold fnV at *; go_simp; rw [callK]; go_simp; refine (HM.out _ ?_).mono ?_; (exact bstep (Tryst2.Grow.below hg (.refl Y.heap.size Y)) HB.out); rintro e w2 ⟨rfl, hb2⟩; exact ⟨hb2, rfl⟩)
 case fin =>
  intro tv w' hg hR
  simp only [YF, YL, YR] at hR
  obtain ⟨hcg, hfg, hsg⟩ := YG hg
  simp only [YP, YL, Act.put, hR]
  have HB9 := Lib.hid (bstep (Tryst2.Grow.below hg (.refl Y.heap.size Y)) HB.out)
  clear hg hR hcg hfg hsg
  go_wp2_with fail
  go_ret
  exact ⟨rfl, HB9.out⟩
end Go.Proofs.YtmlbdblnmbmnpaaGreatDoor
namespace Go.Proofs.YtmlbdblnmbmnpaaGreatDoor
open Go.RowKit Tryst
set_option maxHeartbeats 400000
set_option maxRecDepth 20000
set_option maxHeartbeats 4000000
theorem PBox.awayM {w : World} {b c j : Nat} {op s : ByteArray} {num : Bool} {n : Int} {vs : ByteArray} {u : Value} (h : PBox w b op s num n vs u) (hc : c ≠ b) (v : Value) : PBox (w.setCell ⟨c, j, none⟩ v) b op s num n vs u := by
 obtain ⟨h0, h1, h2, h3, h4, h5, h6⟩ := h
 constructor <;> simp [cell_setCell, h0, h1, h2, h3, h4, h5, h6, hc]
theorem PBox.alloc {w : World} {b : Nat} {op s : ByteArray} {num : Bool} {n : Int} {vs : ByteArray} {u : Value} (h : PBox w b op s num n vs u) (o : Obj) : PBox (w.alloc o) b op s num n vs u := h.grow (balloc _ (.refl _ _))
theorem PBox.drew {w : World} {b : Nat} {op s : ByteArray} {num : Bool} {n : Int} {vs : ByteArray} {u : Value} (h : PBox w b op s num n vs u) : PBox w.drew b op s num n vs u := ⟨h.c0, h.c1, h.c2, h.c3, h.c4, h.c5, h.hz⟩
theorem VB3.drew {w : World} {b : Nat} {x : Bool} {n : Int} {s : ByteArray} (h : VB3 w b x n s) : VB3 w.drew b x n s := ⟨h.c0, h.c1, h.c2, h.hz⟩
theorem has5_c (op s : ByteArray) (num : Bool) (n : Int) (vs : ByteArray) (a : Option Addr) (len c : Nat) (g mb : Nat) (t p : ByteArray) (q : Int) (ea : Option Addr) (l : List FB) (ec : Nat) (hl : l.length ≤ 1000000000) (w : World) (hA : AskAt w g mb t p q (.slice ea l.length ec)) (hF : Flds w ea l) :
  Calls Tryz.prog 120 #[.pointer (some ⟨g, 0, none⟩), .agg #[.string op, .string s, .bool num, .int .i64 n, .string vs, .slice a len c]] w fun e w' => e = .returned (.bool (findB l s).isSome) ∧ Below w.heap.size w w' := by
 have HF := Lib.hid hF
 have HA := Lib.hid hA
 clear hA hF
 go_enter Tryz.func120, Tryz.ntmps120
 go_upto_region 1 with fail
 refine wp_genC (fun v => Hid (PBox v w.heap.size op s num n vs (.slice a len c)) ∧ Hid (Below w.heap.size w v) ∧ Hid (AskAt v g mb t p q (.slice ea l.length ec)) ∧ Hid (Flds v ea l)) ⟨PBox.new w op s num n vs (.slice a len c) 69, balloc _ (.refl _ _), HA.out.grow (balloc _ (.refl _ _)), HF.out.grow (balloc _ (.refl _ _))⟩ ?_
 rintro Y ⟨HX, HB, HY, HFY⟩
 obtain ⟨B, hB⟩ : ∃ B, w.heap.size = B := ⟨_, rfl⟩
 rw [hB] at HX
 simp only [hB]
 clear hB
 obtain ⟨x0, x1, x2, x3, x4, x5, x6⟩ := HX.out
 obtain ⟨y0, y1, y2, y3, y4, y5, y6, y7⟩ := HY.out.e
 have z1 := HY.out.z
 have HGET := Lib.hid (fun (W : World) (h : Flds W ea l) => get_c t p q ea ec l hl s W h)
 obtain ⟨G, hG⟩ : ∃ G, (findB l s).getD FB.zero = G := ⟨_, rfl⟩
 obtain ⟨fnd, hfnd⟩ : ∃ fnd, (findB l s).isSome = fnd := ⟨_, rfl⟩
 rw [hG, hfnd] at HGET
 have HGG := Lib.hid hG
 have HFN := Lib.hid hfnd
 unfold vV at HGET
 clear HA HF HY hG hfnd
 refine cut_then (fun (cc : Act) v => ∃ gB, cc = ⟨#[.pointer (some ⟨g, 0, none⟩), .agg #[.string op, .string s, .bool num, .int .i64 n, .string vs, .slice a len c], undef, .pointer (some ⟨B, 0, none⟩), .bool false, .pointer (some ⟨gB, 0, none⟩), .bool fnd, .tuple #[.agg #[.bool G.num, .int .i64 G.n, .string G.s], .bool fnd], .pointer (some ⟨g, 0, none⟩), .pointer (some ⟨g, 0, none⟩), .pointer (some ⟨g, 0, none⟩), .agg #[.string t, .string p, .int .u64 q, .slice ea l.length ec], .pointer (some ⟨B, 1, none⟩), .string s, .tuple #[.agg #[.bool G.num, .int .i64 G.n, .string G.s], .bool fnd], .agg #[.bool G.num, .int .i64 G.n, .string G.s], .bool fnd, undef], []⟩ ∧ Hid (PBox v B op s num n vs (.slice a len c)) ∧ Hid (VB3 v gB G.num G.n G.s) ∧ Hid (Below w.heap.size w v)) ?_ ?_
 case refine_1 =>
  go_region_with (go_at_call 69; (with_reducible refine (HGET.out _ ?_).mono ?_); (first | exact HFY.out | exact HFY.out.grow (balloc _ (.refl _ _)) | exact HFY.out.grow (bdrew (.refl _ _)) | exact HFY.out.grow (balloc _ (bdrew (.refl _ _))) | exact HFY.out.grow (bdrew (balloc _ (.refl _ _)))); rintro x w2 ⟨rfl, hb2⟩; obtain ⟨hc2, hf2⟩ := bcell hb2; have hsz2 := hb2.size; simp at hsz2)
  all_goals
   have hbA : Below Y.heap.size Y w2 := by
    (repeat (first | exact Below.refl _ _ | assumption | refine bdrew ?_ | refine balloc _ ?_ | refine bset _ (by simp) ?_ | refine bstep (by assumption) ?_ | refine Grow.below (by assumption) ?_ | refine Tryst2.Grow.below (by assumption) ?_))
   have hzA := hbA.size
   have HX2 := Lib.hid (HX.out.grow hbA)
   have HB2 := Lib.hid (bstep hbA HB.out)
   have hwY := HB.out.size
   clear hbA hb2
   refine ⟨_, rfl, ?_, ?_, ?_⟩
   ·
    show PBox _ _ _ _ _ _ _ _
    (repeat (first | exact HX2.out | apply PBox.alloc | apply PBox.drew | (refine PBox.awayM ?_ (by omega) _)))
   ·
    show VB3 _ _ _ _ _
    (repeat (first | exact VB3.new _ _ _ _ _ | apply VB3.drew))
    try
     refine VB3.set (x := false) (n := 0) (s := ⟨#[]⟩) ?_
     constructor
     ·
      rw [hc2 _ _ (by simp <;> omega)]; simp [go_sem]
     ·
      rw [hc2 _ _ (by simp <;> omega)]; simp [go_sem]
     ·
      rw [hc2 _ _ (by simp <;> omega)]; simp [go_sem]
     ·
      omega
   ·
    show Below _ _ _
    (repeat (first | exact HB2.out | refine bdrew ?_ | refine balloc _ ?_ | refine bset _ (by simp <;> omega) ?_))
 case refine_2 =>
  rintro cc Z ⟨gB, rfl, HPZ, HVZ, HKY⟩
  obtain ⟨x0, x1, x2, x3, x4, x5, x6⟩ := HPZ.out
  obtain ⟨v0, v1, v2, v3⟩ := HVZ.out
  (go_wp2_with fail; go_ret; exact ⟨ret_bool HFN.out.symm, HKY.out⟩)
def eqB (l : List FB) (s : ByteArray) (num : Bool) (n : Int) (vs : ByteArray) : Bool := (findB l s).isSome && decide ((((findB l s).getD FB.zero).num = num ∧ ((findB l s).getD FB.zero).n = n) ∧ ((findB l s).getD FB.zero).s.toList = vs.toList)
theorem eq5_c (op s : ByteArray) (num : Bool) (n : Int) (vs : ByteArray) (a : Option Addr) (len c : Nat) (g mb : Nat) (t p : ByteArray) (q : Int) (ea : Option Addr) (l : List FB) (ec : Nat) (hl : l.length ≤ 1000000000) (w : World) (hA : AskAt w g mb t p q (.slice ea l.length ec)) (hF : Flds w ea l) :
  Calls Tryz.prog 121 #[.pointer (some ⟨g, 0, none⟩), .agg #[.string op, .string s, .bool num, .int .i64 n, .string vs, .slice a len c]] w fun e w' => e = .returned (.bool (eqB l s num n vs)) ∧ Below w.heap.size w w' := by
 have HF := Lib.hid hF
 have HA := Lib.hid hA
 clear hA hF
 go_enter Tryz.func121, Tryz.ntmps121
 go_upto_region 1 with fail
 refine wp_genC (fun v => Hid (PBox v w.heap.size op s num n vs (.slice a len c)) ∧ Hid (Below w.heap.size w v) ∧ Hid (AskAt v g mb t p q (.slice ea l.length ec)) ∧ Hid (Flds v ea l)) ⟨PBox.new w op s num n vs (.slice a len c) 69, balloc _ (.refl _ _), HA.out.grow (balloc _ (.refl _ _)), HF.out.grow (balloc _ (.refl _ _))⟩ ?_
 rintro Y ⟨HX, HB, HY, HFY⟩
 obtain ⟨B, hB⟩ : ∃ B, w.heap.size = B := ⟨_, rfl⟩
 rw [hB] at HX
 simp only [hB]
 clear hB
 obtain ⟨x0, x1, x2, x3, x4, x5, x6⟩ := HX.out
 obtain ⟨y0, y1, y2, y3, y4, y5, y6, y7⟩ := HY.out.e
 have z1 := HY.out.z
 have HGET := Lib.hid (fun (W : World) (h : Flds W ea l) => get_c t p q ea ec l hl s W h)
 obtain ⟨G, hG⟩ : ∃ G, (findB l s).getD FB.zero = G := ⟨_, rfl⟩
 obtain ⟨fnd, hfnd⟩ : ∃ fnd, (findB l s).isSome = fnd := ⟨_, rfl⟩
 rw [hG, hfnd] at HGET
 have HGG := Lib.hid hG
 have HFN := Lib.hid hfnd
 unfold vV at HGET
 clear HA HF HY hG hfnd
 refine cut_then (fun (cc : Act) v => ∃ gB, cc = ⟨#[.pointer (some ⟨g, 0, none⟩), .agg #[.string op, .string s, .bool num, .int .i64 n, .string vs, .slice a len c], undef, .pointer (some ⟨B, 0, none⟩), .bool false, .pointer (some ⟨gB, 0, none⟩), .bool fnd, .tuple #[.agg #[.bool G.num, .int .i64 G.n, .string G.s], .bool fnd], .pointer (some ⟨g, 0, none⟩), .pointer (some ⟨g, 0, none⟩), .pointer (some ⟨g, 0, none⟩), .agg #[.string t, .string p, .int .u64 q, .slice ea l.length ec], .pointer (some ⟨B, 1, none⟩), .string s, .tuple #[.agg #[.bool G.num, .int .i64 G.n, .string G.s], .bool fnd], .agg #[.bool G.num, .int .i64 G.n, .string G.s], .bool fnd, undef, undef, undef, undef, undef, undef, undef], []⟩ ∧ Hid (PBox v B op s num n vs (.slice a len c)) ∧ Hid (VB3 v gB G.num G.n G.s) ∧ Hid (Below w.heap.size w v)) ?_ ?_
 case refine_1 =>
  go_region_with (go_at_call 69; (with_reducible refine (HGET.out _ ?_).mono ?_); (first | exact HFY.out | exact HFY.out.grow (balloc _ (.refl _ _)) | exact HFY.out.grow (bdrew (.refl _ _)) | exact HFY.out.grow (balloc _ (bdrew (.refl _ _))) | exact HFY.out.grow (bdrew (balloc _ (.refl _ _)))); rintro x w2 ⟨rfl, hb2⟩; obtain ⟨hc2, hf2⟩ := bcell hb2; have hsz2 := hb2.size; simp at hsz2)
  all_goals
   have hbA : Below Y.heap.size Y w2 := by
    (repeat (first | exact Below.refl _ _ | assumption | refine bdrew ?_ | refine balloc _ ?_ | refine bset _ (by simp) ?_ | refine bstep (by assumption) ?_ | refine Grow.below (by assumption) ?_ | refine Tryst2.Grow.below (by assumption) ?_))
   have hzA := hbA.size
   have HX2 := Lib.hid (HX.out.grow hbA)
   have HB2 := Lib.hid (bstep hbA HB.out)
   have hwY := HB.out.size
   clear hbA hb2
   refine ⟨_, rfl, ?_, ?_, ?_⟩
   ·
    show PBox _ _ _ _ _ _ _ _
    (repeat (first | exact HX2.out | apply PBox.alloc | apply PBox.drew | (refine PBox.awayM ?_ (by omega) _)))
   ·
    show VB3 _ _ _ _ _
    (repeat (first | exact VB3.new _ _ _ _ _ | apply VB3.drew))
    try
     refine VB3.set (x := false) (n := 0) (s := ⟨#[]⟩) ?_
     constructor
     ·
      rw [hc2 _ _ (by simp <;> omega)]; simp [go_sem]
     ·
      rw [hc2 _ _ (by simp <;> omega)]; simp [go_sem]
     ·
      rw [hc2 _ _ (by simp <;> omega)]; simp [go_sem]
     ·
      omega
   ·
    show Below _ _ _
    (repeat (first | exact HB2.out | refine bdrew ?_ | refine balloc _ ?_ | refine bset _ (by simp <;> omega) ?_))
 case refine_2 =>
  rintro cc Z ⟨gB, rfl, HPZ, HVZ, HKY⟩
  obtain ⟨x0, x1, x2, x3, x4, x5, x6⟩ := HPZ.out
  obtain ⟨v0, v1, v2, v3⟩ := HVZ.out
  (cases fnd; all_goals (go_wp2_with fail; all_goals (go_ret; refine ⟨ret_bool ?_, HKY.out⟩; unfold eqB; rw [HFN.out, HGG.out]; first | rfl | (simp only [Bool.true_and]; exact (decide_eq_true ⟨⟨‹_›, ‹_›⟩, ‹_›⟩).symm) | (simp only [Bool.true_and]; exact (decide_eq_false (fun h => absurd h.2 ‹_›)).symm) | (simp only [Bool.true_and]; exact (decide_eq_false (fun h => absurd h.1.2 ‹_›)).symm) | (simp only [Bool.true_and]; exact (decide_eq_false (fun h => absurd h.1.1 ‹_›)).symm))))
end Go.Proofs.YtmlbdblnmbmnpaaGreatDoor
namespace Go.Proofs.YtmlbdblnmbmnpaaGreatDoor
open Go.RowKit Tryst
set_option maxHeartbeats 400000
set_option maxRecDepth 20000
set_option maxHeartbeats 4000000
def ltB (l : List FB) (s : ByteArray) (num : Bool) (n : Int) (vs : ByteArray) : Bool := (findB l s).isSome && (decide (((findB l s).getD FB.zero).num = num) && decide (V.order ⟨((findB l s).getD FB.zero).num, ((findB l s).getD FB.zero).n, ((findB l s).getD FB.zero).s.data.toList⟩ ⟨num, n, vs.data.toList⟩ < 0))
theorem lt5_c (op s : ByteArray) (num : Bool) (n : Int) (vs : ByteArray) (a : Option Addr) (len c : Nat) (g mb : Nat) (t p : ByteArray) (q : Int) (ea : Option Addr) (l : List FB) (ec : Nat) (hl : l.length ≤ 1000000000) (w : World) (hA : AskAt w g mb t p q (.slice ea l.length ec)) (hF : Flds w ea l) :
  Calls Tryz.prog 122 #[.pointer (some ⟨g, 0, none⟩), .agg #[.string op, .string s, .bool num, .int .i64 n, .string vs, .slice a len c]] w fun e w' => e = .returned (.bool (ltB l s num n vs)) ∧ Below w.heap.size w w' := by
 have HF := Lib.hid hF
 have HA := Lib.hid hA
 clear hA hF
 go_enter Tryz.func122, Tryz.ntmps122
 go_upto_region 1 with fail
 refine wp_genC (fun v => Hid (PBox v w.heap.size op s num n vs (.slice a len c)) ∧ Hid (Below w.heap.size w v) ∧ Hid (AskAt v g mb t p q (.slice ea l.length ec)) ∧ Hid (Flds v ea l)) ⟨PBox.new w op s num n vs (.slice a len c) 69, balloc _ (.refl _ _), HA.out.grow (balloc _ (.refl _ _)), HF.out.grow (balloc _ (.refl _ _))⟩ ?_
 rintro Y ⟨HX, HB, HY, HFY⟩
 obtain ⟨B, hB⟩ : ∃ B, w.heap.size = B := ⟨_, rfl⟩
 rw [hB] at HX
 simp only [hB]
 clear hB
 obtain ⟨x0, x1, x2, x3, x4, x5, x6⟩ := HX.out
 obtain ⟨y0, y1, y2, y3, y4, y5, y6, y7⟩ := HY.out.e
 have z1 := HY.out.z
 have HGET := Lib.hid (fun (W : World) (h : Flds W ea l) => get_c t p q ea ec l hl s W h)
 obtain ⟨G, hG⟩ : ∃ G, (findB l s).getD FB.zero = G := ⟨_, rfl⟩
 obtain ⟨fnd, hfnd⟩ : ∃ fnd, (findB l s).isSome = fnd := ⟨_, rfl⟩
 rw [hG, hfnd] at HGET
 have HGG := Lib.hid hG
 have HFN := Lib.hid hfnd
 unfold vV at HGET
 clear HA HF HY hG hfnd
 refine cut_then (fun (cc : Act) v => ∃ gB, cc = ⟨#[.pointer (some ⟨g, 0, none⟩), .agg #[.string op, .string s, .bool num, .int .i64 n, .string vs, .slice a len c], undef, .pointer (some ⟨B, 0, none⟩), .bool false, .pointer (some ⟨gB, 0, none⟩), .bool fnd, .tuple #[.agg #[.bool G.num, .int .i64 G.n, .string G.s], .bool fnd], .pointer (some ⟨g, 0, none⟩), .pointer (some ⟨g, 0, none⟩), .pointer (some ⟨g, 0, none⟩), .agg #[.string t, .string p, .int .u64 q, .slice ea l.length ec], .pointer (some ⟨B, 1, none⟩), .string s, .tuple #[.agg #[.bool G.num, .int .i64 G.n, .string G.s], .bool fnd], .agg #[.bool G.num, .int .i64 G.n, .string G.s], .bool fnd, undef, undef, undef, undef, undef, undef, undef, undef, undef, undef, undef, undef, undef, undef, undef, undef], []⟩ ∧ Hid (PBox v B op s num n vs (.slice a len c)) ∧ Hid (VB3 v gB G.num G.n G.s) ∧ Hid (Below w.heap.size w v)) ?_ ?_
 case refine_1 =>
  go_region_with (go_at_call 69; (with_reducible refine (HGET.out _ ?_).mono ?_); (first | exact HFY.out | exact HFY.out.grow (balloc _ (.refl _ _)) | exact HFY.out.grow (bdrew (.refl _ _)) | exact HFY.out.grow (balloc _ (bdrew (.refl _ _))) | exact HFY.out.grow (bdrew (balloc _ (.refl _ _)))); rintro x w2 ⟨rfl, hb2⟩; obtain ⟨hc2, hf2⟩ := bcell hb2; have hsz2 := hb2.size; simp at hsz2)
  all_goals
   have hbA : Below Y.heap.size Y w2 := by
    (repeat (first | exact Below.refl _ _ | assumption | refine bdrew ?_ | refine balloc _ ?_ | refine bset _ (by simp) ?_ | refine bstep (by assumption) ?_ | refine Grow.below (by assumption) ?_ | refine Tryst2.Grow.below (by assumption) ?_))
   have hzA := hbA.size
   have HX2 := Lib.hid (HX.out.grow hbA)
   have HB2 := Lib.hid (bstep hbA HB.out)
   have hwY := HB.out.size
   clear hbA hb2
   refine ⟨_, rfl, ?_, ?_, ?_⟩
   ·
    show PBox _ _ _ _ _ _ _ _
    (repeat (first | exact HX2.out | apply PBox.alloc | apply PBox.drew | (refine PBox.awayM ?_ (by omega) _)))
   ·
    show VB3 _ _ _ _ _
    (repeat (first | exact VB3.new _ _ _ _ _ | apply VB3.drew))
    try
     refine VB3.set (x := false) (n := 0) (s := ⟨#[]⟩) ?_
     constructor
     ·
      rw [hc2 _ _ (by simp <;> omega)]; simp [go_sem]
     ·
      rw [hc2 _ _ (by simp <;> omega)]; simp [go_sem]
     ·
      rw [hc2 _ _ (by simp <;> omega)]; simp [go_sem]
     ·
      omega
   ·
    show Below _ _ _
    (repeat (first | exact HB2.out | refine bdrew ?_ | refine balloc _ ?_ | refine bset _ (by simp <;> omega) ?_))
 case refine_2 =>
  rintro cc Z ⟨gB, rfl, HPZ, HVZ, HKY⟩
  obtain ⟨x0, x1, x2, x3, x4, x5, x6⟩ := HPZ.out
  obtain ⟨v0, v1, v2, v3⟩ := HVZ.out
  skip
  cases fnd with
  | false =>
   go_wp2_with fail
   go_ret
   exact ⟨ret_bool (by unfold ltB; rw [HFN.out]; rfl), HKY.out⟩
  | true =>
   have HOR := Lib.hid (fun (W : World) => order_c G.num num G.n n G.s vs W)
   obtain ⟨O, hO⟩ : ∃ O, V.order ⟨G.num, G.n, G.s.data.toList⟩ ⟨num, n, vs.data.toList⟩ = O := ⟨_, rfl⟩
   rw [hO] at HOR
   have HOO := Lib.hid hO
   clear hO
   by_cases hnm : G.num = num
   ·
    have y1 : (G.num == num) = true := by simpa using hnm
    have HNM := Lib.hid hnm
    clear hnm
    by_cases ho : O < 0
    all_goals
     go_wp2_with fail
     refine (HOR.out _).mono ?_
     rintro e w2 ⟨rfl, hb2⟩
     have HB2 := Lib.hid (bstep hb2 HKY.out)
     clear hb2
     go_wp2_with fail
     go_ret
     refine ⟨ret_bool ?_, HB2.out⟩
     unfold ltB
     rw [HFN.out, HGG.out, HOO.out]
     simp [HNM.out, ho]
   ·
    have y1 : (G.num == num) = false := by simpa using hnm
    have HNM := Lib.hid hnm
    clear hnm
    go_wp2_with fail
    go_ret
    refine ⟨ret_bool ?_, HKY.out⟩
    unfold ltB
    rw [HFN.out, HGG.out]
    simp [HNM.out]
end Go.Proofs.YtmlbdblnmbmnpaaGreatDoor
namespace Go.Proofs.YtmlbdblnmbmnpaaGreatDoor
open Go.RowKit Tryst
set_option maxHeartbeats 2000000
set_option maxRecDepth 20000
theorem all5_c (op s : ByteArray) (num : Bool) (n : Int) (vs : ByteArray) (u : Value) (g : Nat) (w : World) :
  Calls Tryz.prog 118 #[.pointer (some ⟨g, 0, none⟩), .agg #[.string op, .string s, .bool num, .int .i64 n, .string vs, u]] w fun e w' => e = .returned (.bool true) ∧ Below w.heap.size w w' := by
 go_enter Tryz.func118, Tryz.ntmps118
 go_wp2_with fail
 go_ret
 exact ⟨rfl, balloc _ (.refl _ _)⟩
theorem topic5_c (op s : ByteArray) (num : Bool) (n : Int) (vs : ByteArray) (a : Option Addr) (len c : Nat) (g mb : Nat) (t p : ByteArray) (q : Int) (u : Value) (hs : s.size ≤ 1000000) (ht : t.size ≤ 1000000) (w : World) (hM : MaxW w) (hA : AskAt w g mb t p q u) :
  Calls Tryz.prog 119 #[.pointer (some ⟨g, 0, none⟩), .agg #[.string op, .string s, .bool num, .int .i64 n, .string vs, .slice a len c]] w fun e w' => e = .returned (.bool (meetsB s.data.toList t.data.toList)) ∧ Below w.heap.size w w' := by
 have HMT := Lib.hid (fun W (hb : Below w.heap.size w W) => meets_c s t hs ht W (hM.grow hb))
 have HA := Lib.hid hA
 generalize meetsB s.data.toList t.data.toList = X at HMT ⊢
 clear hA hM
 go_enter Tryz.func119, Tryz.ntmps119
 go_upto_region 1 with fail
 refine wp_genC (fun v => Hid (PBox v w.heap.size op s num n vs (.slice a len c)) ∧ Hid (Below w.heap.size w v) ∧ Hid (AskAt v g mb t p q u)) ⟨PBox.new w op s num n vs (.slice a len c) 69, balloc _ (.refl _ _), HA.out.grow (balloc _ (.refl _ _))⟩ ?_
 rintro Y ⟨HX, HB, HY⟩
 generalize w.heap.size = B at HX ⊢
 obtain ⟨x0, x1, x2, x3, x4, x5, x6⟩ := HX.out
 obtain ⟨z0, z1, z2, z3, z4, z5, z6, z7⟩ := HY.out.e
 have zz := HY.out.z
 refine Tryst2.wp_region_grows [.is (.pointer (some ⟨B, 1, none⟩)), .is (.string s), .is (.pointer (some ⟨g, 0, none⟩)), .is (.pointer (some ⟨g, 0, none⟩)), .is (.pointer (some ⟨g, 0, none⟩)), .is (.pointer (some ⟨g, 0, none⟩)), .is (.string t), .is (.bool X), .is (.bool X)] (by kernel_rfl) (by kernel_rfl) ?obl ?fin
 case obl =>
  simp only [YA, YL, YO, YR, Op.operands, Call.operands]
  repeat' apply And.intro
  any_goals trivial
  all_goals (intro tv w' hg hold hd; (try simp at hold); obtain ⟨hcg, hfg, hsg⟩ := YG hg)
  all_goals first | (go_simp; done) | (go_simp; rw [if_neg (by omega)]; exact ⟨.refl _, rfl⟩) | (obtain ⟨⟨g, hvg, hgg, hcell⟩, _⟩ := hd; have hcell0 := hcell 0 (by decide); simp at hcell0; go_simp; done) | (go_simp; refine (HMT.out _ ?_).mono ?_; (exact bstep (Tryst2.Grow.below hg (.refl Y.heap.size Y)) HB.out); rintro e w2 ⟨rfl, hb2⟩; exact ⟨hb2, rfl⟩)
 case fin =>
  intro tv w' hg hR
  simp only [YF, YL, YR] at hR
  obtain ⟨hcg, hfg, hsg⟩ := YG hg
  simp only [YP, YL, Act.put, hR]
  have HB9 := Lib.hid (bstep (Tryst2.Grow.below hg (.refl Y.heap.size Y)) HB.out)
  clear hg hR hcg hfg hsg
  go_wp2_with fail
  go_ret
  exact ⟨rfl, HB9.out⟩
theorem not5_c (op s : ByteArray) (num : Bool) (n : Int) (vs : ByteArray) (a : Option Addr) (c : Nat) (y : PB) (g : Nat) (X : Bool) (w : World) (hR : Row w a 6 ([y].map PB.cells))
  (hH : ∀ W, Below w.heap.size w W → Calls Tryz.prog 101 #[.pointer (some ⟨g, 0, none⟩), y.agg] W fun e w' => e = .returned (.bool X) ∧ Below W.heap.size W w') :
  Calls Tryz.prog 123 #[.pointer (some ⟨g, 0, none⟩), .agg #[.string op, .string s, .bool num, .int .i64 n, .string vs, .slice a 1 c]] w fun e w' => e = .returned (.bool (!X)) ∧ Below w.heap.size w w' := by
 obtain ⟨op1, s1, num1, n1, vs1, a1, c1, l1⟩ := y
 unfold PB.agg at hH
 simp only [PB.op, PB.s, PB.num, PB.n, PB.vs, PB.a, PB.c, PB.l] at hH
 have HH := Lib.hid hH
 have HR := Lib.hid hR
 obtain ⟨b, o, rfl, -⟩ := hR.head (i := 0) (by simp)
 clear hH hR
 go_enter Tryz.func123, Tryz.ntmps123
 go_upto_region 1 with fail
 refine wp_genC (fun v => Hid (PBox v w.heap.size op s num n vs (.slice (some ⟨b, o, none⟩) 1 c)) ∧ Hid (Below w.heap.size w v)) ⟨PBox.new w op s num n vs _ 69, balloc _ (.refl _ _)⟩ ?_
 rintro Y ⟨HX, HB⟩
 generalize w.heap.size = B at HX ⊢
 obtain ⟨x0, x1, x2, x3, x4, x5, x6⟩ := HX.out
 obtain ⟨hz, hc⟩ := (HR.out.grow HB.out).at (i := 0) (by simp)
 have r0 := hc 0 (by omega)
 have r1 := hc 1 (by omega)
 have r2 := hc 2 (by omega)
 have r3 := hc 3 (by omega)
 have r4 := hc 4 (by omega)
 have r5 := hc 5 (by omega)
 simp [PB.cells, PB.op, PB.s, PB.num, PB.n, PB.vs, PB.a, PB.c, PB.l] at r0 r1 r2 r3 r4 r5
 clear hc
 go_wp2_with fail
 refine (HH.out Y HB.out).mono ?_
 rintro e w2 ⟨rfl, hb2⟩
 have HB2 := Lib.hid (bstep hb2 HB.out)
 clear x0 x1 x2 x3 x4 x5 x6 r0 r1 r2 r3 r4 r5 hz hb2 HX HB
 go_wp2_with fail
 go_ret
 exact ⟨rfl, HB2.out⟩
theorem and5_c (op s : ByteArray) (num : Bool) (n : Int) (vs : ByteArray) (a : Option Addr) (c : Nat) (y z : PB) (g : Nat) (X1 X2 : Bool) (w : World) (hR : Row w a 6 ([y, z].map PB.cells))
  (hH : ∀ W, Below w.heap.size w W → Calls Tryz.prog 101 #[.pointer (some ⟨g, 0, none⟩), y.agg] W fun e w' => e = .returned (.bool X1) ∧ Below W.heap.size W w')
  (hH2 : ∀ W, Below w.heap.size w W → Calls Tryz.prog 101 #[.pointer (some ⟨g, 0, none⟩), z.agg] W fun e w' => e = .returned (.bool X2) ∧ Below W.heap.size W w') :
  Calls Tryz.prog 124 #[.pointer (some ⟨g, 0, none⟩), .agg #[.string op, .string s, .bool num, .int .i64 n, .string vs, .slice a 2 c]] w fun e w' => e = .returned (.bool (X1 && X2)) ∧ Below w.heap.size w w' := by
 obtain ⟨op1, s1, num1, n1, vs1, a1, c1, l1⟩ := y
 obtain ⟨op2, s2, num2, n2, vs2, a2, c2, l2⟩ := z
 unfold PB.agg at hH hH2
 simp only [PB.op, PB.s, PB.num, PB.n, PB.vs, PB.a, PB.c, PB.l] at hH hH2
 have HH := Lib.hid hH
 have HH2 := Lib.hid hH2
 have HR := Lib.hid hR
 obtain ⟨b, o, rfl, -⟩ := hR.head (i := 0) (by simp)
 clear hH hH2 hR
 go_enter Tryz.func124, Tryz.ntmps124
 go_upto_region 1 with fail
 refine wp_genC (fun v => Hid (PBox v w.heap.size op s num n vs (.slice (some ⟨b, o, none⟩) 2 c)) ∧ Hid (Below w.heap.size w v)) ⟨PBox.new w op s num n vs _ 69, balloc _ (.refl _ _)⟩ ?_
 rintro Y ⟨HX, HB⟩
 generalize w.heap.size = B at HX ⊢
 obtain ⟨x0, x1, x2, x3, x4, x5, x6⟩ := HX.out
 obtain ⟨hz, hc⟩ := (HR.out.grow HB.out).at (i := 0) (by simp)
 have r0 := hc 0 (by omega)
 have r1 := hc 1 (by omega)
 have r2 := hc 2 (by omega)
 have r3 := hc 3 (by omega)
 have r4 := hc 4 (by omega)
 have r5 := hc 5 (by omega)
 simp [PB.cells, PB.op, PB.s, PB.num, PB.n, PB.vs, PB.a, PB.c, PB.l] at r0 r1 r2 r3 r4 r5
 clear hc
 cases X1 with
 | true =>
  go_wp2_with fail
  refine (HH.out Y HB.out).mono ?_
  rintro e w2 ⟨rfl, hb2⟩
  have HB2 := Lib.hid (bstep hb2 HB.out)
  have HX2 := Lib.hid (HX.out.grow hb2)
  clear x0 x1 x2 x3 x4 x5 x6 r0 r1 r2 r3 r4 r5 hz hb2 HX HB
  obtain ⟨x0, x1, x2, x3, x4, x5, x6⟩ := HX2.out
  obtain ⟨hz, hc⟩ := (HR.out.grow HB2.out).at (i := 1) (by simp)
  have r0 := hc 0 (by omega)
  have r1 := hc 1 (by omega)
  have r2 := hc 2 (by omega)
  have r3 := hc 3 (by omega)
  have r4 := hc 4 (by omega)
  have r5 := hc 5 (by omega)
  simp [PB.cells, PB.op, PB.s, PB.num, PB.n, PB.vs, PB.a, PB.c, PB.l] at r0 r1 r2 r3 r4 r5
  clear hc
  go_wp2_with fail
  refine (HH2.out w2 HB2.out).mono ?_
  rintro e w3 ⟨rfl, hb3⟩
  have HB3 := Lib.hid (bstep hb3 HB2.out)
  clear x0 x1 x2 x3 x4 x5 x6 r0 r1 r2 r3 r4 r5 hz hb3
  go_wp2_with fail
  go_ret
  exact ⟨rfl, HB3.out⟩
 | false =>
  go_wp2_with fail
  refine (HH.out Y HB.out).mono ?_
  rintro e w2 ⟨rfl, hb2⟩
  have HB2 := Lib.hid (bstep hb2 HB.out)
  have HX2 := Lib.hid (HX.out.grow hb2)
  clear x0 x1 x2 x3 x4 x5 x6 r0 r1 r2 r3 r4 r5 hz hb2 HX HB
  go_wp2_with fail
  go_ret
  exact ⟨rfl, HB2.out⟩
theorem or5_c (op s : ByteArray) (num : Bool) (n : Int) (vs : ByteArray) (a : Option Addr) (c : Nat) (y z : PB) (g : Nat) (X1 X2 : Bool) (w : World) (hR : Row w a 6 ([y, z].map PB.cells))
  (hH : ∀ W, Below w.heap.size w W → Calls Tryz.prog 101 #[.pointer (some ⟨g, 0, none⟩), y.agg] W fun e w' => e = .returned (.bool X1) ∧ Below W.heap.size W w')
  (hH2 : ∀ W, Below w.heap.size w W → Calls Tryz.prog 101 #[.pointer (some ⟨g, 0, none⟩), z.agg] W fun e w' => e = .returned (.bool X2) ∧ Below W.heap.size W w') :
  Calls Tryz.prog 125 #[.pointer (some ⟨g, 0, none⟩), .agg #[.string op, .string s, .bool num, .int .i64 n, .string vs, .slice a 2 c]] w fun e w' => e = .returned (.bool (X1 || X2)) ∧ Below w.heap.size w w' := by
 obtain ⟨op1, s1, num1, n1, vs1, a1, c1, l1⟩ := y
 obtain ⟨op2, s2, num2, n2, vs2, a2, c2, l2⟩ := z
 unfold PB.agg at hH hH2
 simp only [PB.op, PB.s, PB.num, PB.n, PB.vs, PB.a, PB.c, PB.l] at hH hH2
 have HH := Lib.hid hH
 have HH2 := Lib.hid hH2
 have HR := Lib.hid hR
 obtain ⟨b, o, rfl, -⟩ := hR.head (i := 0) (by simp)
 clear hH hH2 hR
 go_enter Tryz.func125, Tryz.ntmps125
 go_upto_region 1 with fail
 refine wp_genC (fun v => Hid (PBox v w.heap.size op s num n vs (.slice (some ⟨b, o, none⟩) 2 c)) ∧ Hid (Below w.heap.size w v)) ⟨PBox.new w op s num n vs _ 69, balloc _ (.refl _ _)⟩ ?_
 rintro Y ⟨HX, HB⟩
 generalize w.heap.size = B at HX ⊢
 obtain ⟨x0, x1, x2, x3, x4, x5, x6⟩ := HX.out
 obtain ⟨hz, hc⟩ := (HR.out.grow HB.out).at (i := 0) (by simp)
 have r0 := hc 0 (by omega)
 have r1 := hc 1 (by omega)
 have r2 := hc 2 (by omega)
 have r3 := hc 3 (by omega)
 have r4 := hc 4 (by omega)
 have r5 := hc 5 (by omega)
 simp [PB.cells, PB.op, PB.s, PB.num, PB.n, PB.vs, PB.a, PB.c, PB.l] at r0 r1 r2 r3 r4 r5
 clear hc
 cases X1 with
 | true =>
  go_wp2_with fail
  refine (HH.out Y HB.out).mono ?_
  rintro e w2 ⟨rfl, hb2⟩
  have HB2 := Lib.hid (bstep hb2 HB.out)
  have HX2 := Lib.hid (HX.out.grow hb2)
  clear x0 x1 x2 x3 x4 x5 x6 r0 r1 r2 r3 r4 r5 hz hb2 HX HB
  go_wp2_with fail
  go_ret
  exact ⟨rfl, HB2.out⟩
 | false =>
  go_wp2_with fail
  refine (HH.out Y HB.out).mono ?_
  rintro e w2 ⟨rfl, hb2⟩
  have HB2 := Lib.hid (bstep hb2 HB.out)
  have HX2 := Lib.hid (HX.out.grow hb2)
  clear x0 x1 x2 x3 x4 x5 x6 r0 r1 r2 r3 r4 r5 hz hb2 HX HB
  obtain ⟨x0, x1, x2, x3, x4, x5, x6⟩ := HX2.out
  obtain ⟨hz, hc⟩ := (HR.out.grow HB2.out).at (i := 1) (by simp)
  have r0 := hc 0 (by omega)
  have r1 := hc 1 (by omega)
  have r2 := hc 2 (by omega)
  have r3 := hc 3 (by omega)
  have r4 := hc 4 (by omega)
  have r5 := hc 5 (by omega)
  simp [PB.cells, PB.op, PB.s, PB.num, PB.n, PB.vs, PB.a, PB.c, PB.l] at r0 r1 r2 r3 r4 r5
  clear hc
  go_wp2_with fail
  refine (HH2.out w2 HB2.out).mono ?_
  rintro e w3 ⟨rfl, hb3⟩
  have HB3 := Lib.hid (bstep hb3 HB2.out)
  clear x0 x1 x2 x3 x4 x5 x6 r0 r1 r2 r3 r4 r5 hz hb3
  go_wp2_with fail
  go_ret
  exact ⟨rfl, HB3.out⟩
end Go.Proofs.YtmlbdblnmbmnpaaGreatDoor
namespace Go.Proofs.YtmlbdblnmbmnpaaGreatDoor
open Go.RowKit Tryst
set_option maxHeartbeats 2000000
set_option maxRecDepth 20000
/-- the event's box -/
structure EBox (w : World) (b : Nat) (t p : ByteArray) (q : Int) (u : Value) : Prop where
 c0 : w.cell? ⟨b, 0, none⟩ = some (.string t)
 c1 : w.cell? ⟨b, 1, none⟩ = some (.string p)
 c2 : w.cell? ⟨b, 2, none⟩ = some (.int .u64 q)
 c3 : w.cell? ⟨b, 3, none⟩ = some u
 hz : b < w.heap.size
theorem EBox.new (w : World) (t p : ByteArray) (q : Int) (u : Value) (T : TypeId) : EBox (w.alloc (.cells #[.string t, .string p, .int .u64 q, u] T)) w.heap.size t p q u := by
 constructor <;> simp [go_sem]
/-- a predicate is asked of an event, if it may be -/
theorem holdsG_c (x : PB) (t p : ByteArray) (q : Int) (ea : Option Addr) (elen ec : Nat) (X : Bool) (w : World) (hM : MaxW w) (hP : PMem w x)
  (hH : ∀ W g mb, Below w.heap.size w W → AskAt W g mb t p q (.slice ea elen ec) → Calls Tryz.prog 101 #[.pointer (some ⟨g, 0, none⟩), x.agg] W fun e w' => e = .returned (.bool X) ∧ Below W.heap.size W w') :
  Calls Tryz.prog 68 #[x.agg, .agg #[.string t, .string p, .int .u64 q, .slice ea elen ec]] w fun e w' => e = .returned (.bool (mayP x.pr && X)) ∧ Below w.heap.size w w' := by
 have HMY := Lib.hid (fun W (hb : Below w.heap.size w W) => may5_c x W (hM.grow hb) (hP.grow hb))
 have HH := Lib.hid hH
 have HA := Lib.hid (fun W => ask_c t p q ea elen ec W)
 obtain ⟨y, hy⟩ : ∃ y, mayP x.pr = y := ⟨_, rfl⟩
 rw [hy] at HMY ⊢
 clear hy hM hP hH
 obtain ⟨op, s, num, n, vs, a, c, l⟩ := x
 unfold PB.agg at HMY HH ⊢
 simp only [PB.op, PB.s, PB.num, PB.n, PB.vs, PB.a, PB.c, PB.l] at HMY HH ⊢
 go_enter Tryz.func68, Tryz.ntmps68
 go_upto_region 1 with fail
 refine wp_genC (fun v => Hid (PBox v w.heap.size op s num n vs (.slice a l.length c)) ∧ Hid (Below w.heap.size w v) ∧ Hid (EBox v (w.heap.size + 1) t p q (.slice ea elen ec))) ⟨(PBox.new w op s num n vs (.slice a l.length c) 69).grow (balloc _ (.refl _ _)), balloc _ (balloc _ (.refl _ _)), ?_⟩ ?_
 ·
  have h := EBox.new (w.alloc (.cells #[.string op, .string s, .bool num, .int .i64 n, .string vs, .slice a l.length c] 69)) t p q (.slice ea elen ec) 63
  exact Lib.hid (by simpa using h)
 rintro Y ⟨HX, HB, HE⟩
 generalize w.heap.size + 1 = B2 at HE ⊢
 obtain ⟨B, hB⟩ : ∃ B, w.heap.size = B := ⟨_, rfl⟩
 rw [hB] at HX ⊢
 obtain ⟨x0, x1, x2, x3, x4, x5, x6⟩ := HX.out
 obtain ⟨z0, z1, z2, z3, z4⟩ := HE.out
 cases y with
 | false =>
  refine Tryst2.wp_region_grows [.is (.agg #[.string op, .string s, .bool num, .int .i64 n, .string vs, .slice a l.length c]), .is (.bool false), .is (.bool false), .is undef, .is undef, .is undef, .is undef, .is (.bool false), .is (.bool false)] (by kernel_rfl) (by kernel_rfl) ?obl ?fin
  case obl =>
   simp only [YA, YL, YO, YR, Op.operands, Call.operands]
   repeat' apply And.intro
   any_goals trivial
   all_goals (intro tv w' hg hold hd; (try simp at hold); obtain ⟨hcg, hfg, hsg⟩ := YG hg)
   all_goals first | (go_simp; done) | (go_simp; rw [if_neg (by omega)]; exact ⟨.refl _, rfl⟩) | (obtain ⟨⟨g, hvg, hgg, hcell⟩, _⟩ := hd; have hcell0 := hcell 0 (by decide); simp at hcell0; go_simp; done) | (go_simp; refine (HMY.out _ (bstep (Tryst2.Grow.below hg (.refl Y.heap.size Y)) HB.out)).mono ?_; rintro e w2 ⟨rfl, hb2⟩; exact ⟨hb2, rfl⟩)
  case fin =>
   intro tv w' hg hR
   simp only [YF, YL, YR] at hR
   obtain ⟨hcg, hfg, hsg⟩ := YG hg
   simp only [YP, YL, Act.put, hR]
   have HB9 := Lib.hid (bstep (Tryst2.Grow.below hg (.refl Y.heap.size Y)) HB.out)
   clear hg hR hcg hfg hsg
   go_wp2_with fail
   go_ret
   exact ⟨rfl, HB9.out⟩
 | true =>
  refine Tryst2.wp_region_grows [.is (.agg #[.string op, .string s, .bool num, .int .i64 n, .string vs, .slice a l.length c]), .is (.bool true), .is (.bool true), .is (.agg #[.string t, .string p, .int .u64 q, .slice ea elen ec]), .any (fun v w0 => ∃ g mb, v = .pointer (some ⟨g, 0, none⟩) ∧ AskAt w0 g mb t p q (.slice ea elen ec)), .is (.agg #[.string op, .string s, .bool num, .int .i64 n, .string vs, .slice a l.length c]), .is (.bool X), .is (.bool X), .is (.bool X)] (by kernel_rfl) (by kernel_rfl) ?obl ?fin
  case obl =>
   simp only [YA, YL, YO, YR, Op.operands, Call.operands]
   repeat' apply And.intro
   any_goals trivial
   all_goals (intro tv w' hg hold hd; (try simp at hold); obtain ⟨hcg, hfg, hsg⟩ := YG hg)
   all_goals first | (go_simp; done) | (go_simp; rw [if_neg (by omega)]; exact ⟨.refl _, rfl⟩) | (obtain ⟨⟨g, hvg, hgg, hcell⟩, _⟩ := hd; have hcell0 := hcell 0 (by decide); simp at hcell0; go_simp; done) | (go_simp; refine (HMY.out _ (bstep (Tryst2.Grow.below hg (.refl Y.heap.size Y)) HB.out)).mono ?_; rintro e w2 ⟨rfl, hb2⟩; exact ⟨hb2, rfl⟩) | (obtain ⟨⟨w0, hgw, g, mb, h9, hA⟩, h10, h7⟩ := hd; obtain ⟨h7, _⟩ := h7; go_simp; refine (HH.out w' g mb (bstep (Tryst2.Grow.below hg (.refl Y.heap.size Y)) HB.out) (hA.grow hgw)).mono ?_; rintro e w2 ⟨rfl, hb2⟩; exact ⟨hb2, rfl⟩) | (obtain ⟨h8, h7, _⟩ := hd; simp only [h7]; go_simp; refine (HA.out w').mono ?_; rintro e w2 ⟨g, mb, rfl, hA, hb2⟩; exact ⟨hb2, _, Below.refl _ _, g, rfl, mb, hA⟩)
  case fin =>
   intro tv w' hg hR
   simp only [YF, YL, YR] at hR
   obtain ⟨hcg, hfg, hsg⟩ := YG hg
   simp only [YP, YL, Act.put, hR]
   have HB9 := Lib.hid (bstep (Tryst2.Grow.below hg (.refl Y.heap.size Y)) HB.out)
   clear hg hR hcg hfg hsg
   go_wp2_with fail
   go_ret
   exact ⟨rfl, HB9.out⟩
end Go.Proofs.YtmlbdblnmbmnpaaGreatDoor
namespace Go.Proofs.YtmlbdblnmbmnpaaGreatDoor
open Go.RowKit Tryst
set_option maxHeartbeats 2000000
set_option maxRecDepth 20000
end Go.Proofs.YtmlbdblnmbmnpaaGreatDoor
namespace Go.Proofs.YtmlbdblnmbmnpaaGreatDoor
open Go.RowKit Tryst
set_option maxHeartbeats 2000000
set_option maxRecDepth 20000
end Go.Proofs.YtmlbdblnmbmnpaaGreatDoor
namespace Go.Proofs.YtmlbdblnmbmnpaaGreatDoor
open Go.RowKit Tryst
set_option maxHeartbeats 2000000
set_option maxRecDepth 20000
mutual
/-- does it hold of an event: its topic, its fields? -/
def holdsP (t : ByteArray) (l : List FB) : Pr → Bool
 | .mk op s num n vs ps => match opk op with
  | none => false
  | some .all => true
  | some .topic => meetsB s.data.toList t.data.toList
  | some .has => (findB l s).isSome
  | some .eq => eqB l s num n vs
  | some .lt => ltB l s num n vs
  | some .not => !((holdsL t l ps)[0]?.getD false)
  | some .and => ((holdsL t l ps)[0]?.getD false) && ((holdsL t l ps)[1]?.getD false)
  | some .or => ((holdsL t l ps)[0]?.getD false) || ((holdsL t l ps)[1]?.getD false)
def holdsL (t : ByteArray) (l : List FB) : List Pr → List Bool
 | [] => []
 | x :: r => holdsP t l x :: holdsL t l r
end
theorem holds_not (t : ByteArray) (l : List FB) (s : ByteArray) (num : Bool) (n : Int) (vs : ByteArray) (y : Pr) : holdsP t l (.mk Opk.not.text s num n vs [y]) = !(holdsP t l y) := by
 rw [holdsP, opk_text, holdsL]
 rfl
theorem holds_and (t : ByteArray) (l : List FB) (s : ByteArray) (num : Bool) (n : Int) (vs : ByteArray) (y z : Pr) : holdsP t l (.mk Opk.and.text s num n vs [y, z]) = (holdsP t l y && holdsP t l z) := by
 rw [holdsP, opk_text, holdsL, holdsL]
 rfl
theorem holds_or (t : ByteArray) (l : List FB) (s : ByteArray) (num : Bool) (n : Int) (vs : ByteArray) (y z : Pr) : holdsP t l (.mk Opk.or.text s num n vs [y, z]) = (holdsP t l y || holdsP t l z) := by
 rw [holdsP, opk_text, holdsL, holdsL]
 rfl
theorem asks_c (t p : ByteArray) (q : Int) (ea : Option Addr) (l : List FB) (ec : Nat) (ht : t.size ≤ 1000000) (hl : l.length ≤ 1000000000) (g mb : Nat) : ∀ (r : Nat) (x : PB), formP x.pr r = true → ∀ W, MaxW W → PMem W x → AskAt W g mb t p q (.slice ea l.length ec) → Flds W ea l →
  Calls Tryz.prog 101 #[.pointer (some ⟨g, 0, none⟩), x.agg] W fun e w' => e = .returned (.bool (holdsP t l x.pr)) ∧ Below W.heap.size W w' := by
 intro r
 induction r with
 | zero =>
  intro x hx
  obtain ⟨op, s, num, n, vs, a, c, ps⟩ := x
  rw [PB.pr, formP] at hx
  simp at hx
 | succ r ih =>
  intro x hx W hM hP hA hF
  obtain ⟨op, s, num, n, vs, a, c, ps⟩ := x
  rw [PB.pr, formP] at hx
  simp only [Bool.and_eq_true, Nat.add_sub_cancel] at hx
  obtain ⟨-, h1, h2⟩ := hx
  rw [PB.prs_len] at h1
  obtain ⟨hs, hvs, hps, hR, hC⟩ : s.size ≤ 1000000000 ∧ vs.size ≤ 1000000000 ∧ ps.length ≤ 1000000000 ∧ Row W a 6 (ps.map PB.cells) ∧ ∀ x, x ∈ ps → PMem W x := by
   cases hP with
   | mk _ _ _ _ _ _ _ _ h1 h2 h3 h4 h5 => exact ⟨h1, h2, h3, h4, h5⟩
  rcases op_cases op with ⟨k, rfl⟩ | ⟨h, _⟩
  ·
   rw [aloneB_at] at h1
   have HK : ∀ y, y ∈ ps → formP y.pr r = true := fun y hy => formL_mem (by rw [PB.prs_eq]; exact List.mem_map_of_mem hy) h2
   cases k with
   | all =>
    have e : holdsP t l (PB.mk Opk.all.text s num n vs a c ps).pr = true := by rw [PB.pr, holdsP, opk_text]
    rw [e]
    exact holds_via .all s num n vs a c ps.length g mb t p q _ true W hA fun W2 hb2 => all5_c _ s num n vs _ g W2
   | topic =>
    have e : holdsP t l (PB.mk Opk.topic.text s num n vs a c ps).pr = meetsB s.data.toList t.data.toList := by rw [PB.pr, holdsP, opk_text]
    rw [e]
    have h40 : s.size ≤ 1000000 := by
     simp only [aloneK, Bool.and_eq_true] at h1
     have h3 := h1.1
     unfold globB at h3
     simp only [Bool.and_eq_true, decide_eq_true_eq] at h3
     have := h3.1.1
     rw [len_str] at this
     omega
    exact holds_via .topic s num n vs a c ps.length g mb t p q _ _ W hA fun W2 hb2 => topic5_c _ s num n vs a ps.length c g mb t p q _ h40 ht W2 (hM.grow hb2) (hA.grow hb2)
   | has =>
    have e : holdsP t l (PB.mk Opk.has.text s num n vs a c ps).pr = (findB l s).isSome := by rw [PB.pr, holdsP, opk_text]
    rw [e]
    exact holds_via .has s num n vs a c ps.length g mb t p q _ _ W hA fun W2 hb2 => has5_c _ s num n vs a ps.length c g mb t p q ea l ec hl W2 (hA.grow hb2) (hF.grow hb2)
   | eq =>
    have e : holdsP t l (PB.mk Opk.eq.text s num n vs a c ps).pr = eqB l s num n vs := by rw [PB.pr, holdsP, opk_text]
    rw [e]
    exact holds_via .eq s num n vs a c ps.length g mb t p q _ _ W hA fun W2 hb2 => eq5_c _ s num n vs a ps.length c g mb t p q ea l ec hl W2 (hA.grow hb2) (hF.grow hb2)
   | lt =>
    have e : holdsP t l (PB.mk Opk.lt.text s num n vs a c ps).pr = ltB l s num n vs := by rw [PB.pr, holdsP, opk_text]
    rw [e]
    exact holds_via .lt s num n vs a c ps.length g mb t p q _ _ W hA fun W2 hb2 => lt5_c _ s num n vs a ps.length c g mb t p q ea l ec hl W2 (hA.grow hb2) (hF.grow hb2)
   | not =>
    simp only [aloneK, Bool.and_eq_true, decide_eq_true_eq] at h1
    obtain ⟨y, rfl⟩ := List.length_eq_one_iff.1 h1.2.2
    rw [PB.pr, PB.prs, PB.prs, holds_not]
    refine holds_via .not s num n vs a c 1 g mb t p q _ _ W hA fun W2 hb2 => not5_c _ s num n vs a c y g _ W2 (hR.grow hb2) fun W3 hb3 => ?_
    exact ih y (HK y (by simp)) W3 (hM.grow (bstep hb3 hb2)) ((hC y (by simp)).grow (bstep hb3 hb2)) (hA.grow (bstep hb3 hb2)) (hF.grow (bstep hb3 hb2))
   | and =>
    simp only [aloneK, Bool.and_eq_true, decide_eq_true_eq] at h1
    obtain ⟨y, z, rfl⟩ : ∃ y z, ps = [y, z] := by
     match ps, h1.2.2 with
     | [y, z], _ => exact ⟨y, z, rfl⟩
    rw [PB.pr, PB.prs, PB.prs, PB.prs, holds_and]
    refine holds_via .and s num n vs a c 2 g mb t p q _ _ W hA fun W2 hb2 => and5_c _ s num n vs a c y z g _ _ W2 (hR.grow hb2) (fun W3 hb3 => ?_) (fun W3 hb3 => ?_)
    ·
     exact ih y (HK y (by simp)) W3 (hM.grow (bstep hb3 hb2)) ((hC y (by simp)).grow (bstep hb3 hb2)) (hA.grow (bstep hb3 hb2)) (hF.grow (bstep hb3 hb2))
    ·
     exact ih z (HK z (by simp)) W3 (hM.grow (bstep hb3 hb2)) ((hC z (by simp)).grow (bstep hb3 hb2)) (hA.grow (bstep hb3 hb2)) (hF.grow (bstep hb3 hb2))
   | or =>
    simp only [aloneK, Bool.and_eq_true, decide_eq_true_eq] at h1
    obtain ⟨y, z, rfl⟩ : ∃ y z, ps = [y, z] := by
     match ps, h1.2.2 with
     | [y, z], _ => exact ⟨y, z, rfl⟩
    rw [PB.pr, PB.prs, PB.prs, PB.prs, holds_or]
    refine holds_via .or s num n vs a c 2 g mb t p q _ _ W hA fun W2 hb2 => or5_c _ s num n vs a c y z g _ _ W2 (hR.grow hb2) (fun W3 hb3 => ?_) (fun W3 hb3 => ?_)
    ·
     exact ih y (HK y (by simp)) W3 (hM.grow (bstep hb3 hb2)) ((hC y (by simp)).grow (bstep hb3 hb2)) (hA.grow (bstep hb3 hb2)) (hF.grow (bstep hb3 hb2))
    ·
     exact ih z (HK z (by simp)) W3 (hM.grow (bstep hb3 hb2)) ((hC z (by simp)).grow (bstep hb3 hb2)) (hA.grow (bstep hb3 hb2)) (hF.grow (bstep hb3 hb2))
  ·
   unfold aloneB at h1
   rw [h] at h1
   cases h1
theorem holdsN_c (x : PB) (t p : ByteArray) (q : Int) (ea : Option Addr) (elen ec : Nat) (w : World) (hM : MaxW w) (hP : PMem w x) (hno : mayP x.pr = false) :
  Calls Tryz.prog 68 #[x.agg, .agg #[.string t, .string p, .int .u64 q, .slice ea elen ec]] w fun e w' => e = .returned (.bool false) ∧ Below w.heap.size w w' := by
 have HMY := Lib.hid (fun W (hb : Below w.heap.size w W) => may5_c x W (hM.grow hb) (hP.grow hb))
 rw [hno] at HMY
 clear hno hM hP
 obtain ⟨op, s, num, n, vs, a, c, l⟩ := x
 unfold PB.agg at HMY ⊢
 simp only [PB.op, PB.s, PB.num, PB.n, PB.vs, PB.a, PB.c, PB.l] at HMY ⊢
 go_enter Tryz.func68, Tryz.ntmps68
 go_upto_region 1 with fail
 refine wp_genC (fun v => Hid (PBox v w.heap.size op s num n vs (.slice a l.length c)) ∧ Hid (Below w.heap.size w v) ∧ Hid (EBox v (w.heap.size + 1) t p q (.slice ea elen ec))) ⟨(PBox.new w op s num n vs (.slice a l.length c) 69).grow (balloc _ (.refl _ _)), balloc _ (balloc _ (.refl _ _)), ?_⟩ ?_
 ·
  have h := EBox.new (w.alloc (.cells #[.string op, .string s, .bool num, .int .i64 n, .string vs, .slice a l.length c] 69)) t p q (.slice ea elen ec) 63
  exact Lib.hid (by simpa using h)
 rintro Y ⟨HX, HB, HE⟩
 generalize w.heap.size + 1 = B2 at HE ⊢
 obtain ⟨B, hB⟩ : ∃ B, w.heap.size = B := ⟨_, rfl⟩
 rw [hB] at HX ⊢
 obtain ⟨x0, x1, x2, x3, x4, x5, x6⟩ := HX.out
 obtain ⟨z0, z1, z2, z3, z4⟩ := HE.out
 refine Tryst2.wp_region_grows [.is (.agg #[.string op, .string s, .bool num, .int .i64 n, .string vs, .slice a l.length c]), .is (.bool false), .is (.bool false), .is undef, .is undef, .is undef, .is undef, .is (.bool false), .is (.bool false)] (by kernel_rfl) (by kernel_rfl) ?obl ?fin
 case obl =>
  simp only [YA, YL, YO, YR, Op.operands, Call.operands]
  repeat' apply And.intro
  any_goals trivial
  all_goals (intro tv w' hg hold hd; (try simp at hold); obtain ⟨hcg, hfg, hsg⟩ := YG hg)
  all_goals first | (go_simp; done) | (go_simp; rw [if_neg (by omega)]; exact ⟨.refl _, rfl⟩) | (obtain ⟨⟨g, hvg, hgg, hcell⟩, _⟩ := hd; have hcell0 := hcell 0 (by decide); simp at hcell0; go_simp; done) | (go_simp; refine (HMY.out _ (bstep (Tryst2.Grow.below hg (.refl Y.heap.size Y)) HB.out)).mono ?_; rintro e w2 ⟨rfl, hb2⟩; exact ⟨hb2, rfl⟩)
 case fin =>
  intro tv w' hg hR
  simp only [YF, YL, YR] at hR
  obtain ⟨hcg, hfg, hsg⟩ := YG hg
  simp only [YP, YL, Act.put, hR]
  have HB9 := Lib.hid (bstep (Tryst2.Grow.below hg (.refl Y.heap.size Y)) HB.out)
  clear hg hR hcg hfg hsg
  go_wp2_with fail
  go_ret
  exact ⟨rfl, HB9.out⟩
/-- Holds, whatever the predicate and the event -/
theorem holds5_c (x : PB) (t p : ByteArray) (q : Int) (ea : Option Addr) (l : List FB) (ec : Nat) (ht : t.size ≤ 1000000) (hl : l.length ≤ 1000000000) (w : World) (hM : MaxW w) (hP : PMem w x) (hF : Flds w ea l) :
  Calls Tryz.prog 68 #[x.agg, .agg #[.string t, .string p, .int .u64 q, .slice ea l.length ec]] w fun e w' => e = .returned (.bool (mayP x.pr && holdsP t l x.pr)) ∧ Below w.heap.size w w' := by
 cases hm : mayP x.pr with
 | true =>
  have h := holdsG_c x t p q ea l.length ec (holdsP t l x.pr) w hM hP fun W g mb hb hA => asks_c t p q ea l ec ht hl g mb 8 x (by rw [mayP_eq, Bool.and_eq_true] at hm; exact hm.1) W (hM.grow hb) (hP.grow hb) hA (hF.grow hb)
  rw [hm] at h
  exact h
 | false => exact holdsN_c x t p q ea l.length ec w hM hP hm
end Go.Proofs.YtmlbdblnmbmnpaaGreatDoor
namespace Go.Proofs.YtmlbdblnmbmnpaaGreatDoor
open Go.RowKit Tryst
set_option maxHeartbeats 2000000
set_option maxRecDepth 20000
theorem EBox.grow {v w : World} {b : Nat} {t p : ByteArray} {q : Int} {u : Value} (h : EBox v b t p q u) (hb : Below v.heap.size v w) : EBox w b t p q u := by
 obtain ⟨h0, h1, h2, h3, hz⟩ := h
 exact ⟨by rw [hb.cell (p := ⟨b, 0, none⟩) hz]; exact h0, by rw [hb.cell (p := ⟨b, 1, none⟩) hz]; exact h1, by rw [hb.cell (p := ⟨b, 2, none⟩) hz]; exact h2, by rw [hb.cell (p := ⟨b, 3, none⟩) hz]; exact h3, Nat.lt_of_lt_of_le hz hb.size⟩
end Go.Proofs.YtmlbdblnmbmnpaaGreatDoor
