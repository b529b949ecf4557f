/- ref05.nodes, ref05.Same. -/
import Derived.Test.YtmlbdblnmbmnpaaGreatDoorProg
import Derived.WalkKit
import Derived.WalkSpells
import Derived.WalkLawsBesides
import Derived.Lib.Hide
import Derived.Deep.RegionWith
import Derived.Deep.Cut
import Derived.IntWalk
import Derived.Test.YtmlbdblnmbmnpaaGreatDoorFwP5
import Derived.Test.YtmlbdblnmbmnpaaGreatDoorSamT
set_option linter.unusedVariables false
set_option linter.unusedSimpArgs false
namespace Tryst
open Go Go.RowKit
/-- a predicate that lies in this world; all of it is small -/
abbrev PO (w : World) (x : PB) : Prop := POwn w (fun _ => True) x
theorem PO.grow {w w' : World} {x : PB} (h : PO w x) (hb : Below w.heap.size w w') : PO w' x := POwn.grow h hb (fun _ _ => trivial)
theorem POwn.po {w : World} {S : Nat → Prop} {x : PB} (h : POwn w S x) : PO w x := POwn.grow h (.refl _ _) (fun _ _ => trivial)
theorem PO.parts {w : World} {op s : ByteArray} {num : Bool} {n : Int} {vs : ByteArray} {a : Option Addr} {c : Nat} {l : List PB} (h : PO w (.mk op s num n vs a c l)) : (op.size ≤ 100000 ∧ s.size ≤ 100000 ∧ vs.size ≤ 100000 ∧ l.length ≤ 10) ∧ (-9223372036854775808 ≤ n ∧ n ≤ 9223372036854775807) ∧ Row w a 6 (l.map PB.cells) ∧ ∀ x ∈ l, PO w x := by
 cases h with
 | mk _ _ _ _ _ _ _ _ h0 h1 h2 h3 h4 h5 h6 h7 h8 h9 => exact ⟨⟨h0, h1, h2, h3⟩, h4, h5, h9⟩
theorem PO.plain {w : World} {x : PB} (h : PO w x) {b o : Nat} (e : x.a = some ⟨b, o, none⟩) : b < w.heap.size ∧ ∃ cs T, w.heap[b]? = some (.cells cs T (0, 0)) := by
 cases h with
 | mk _ _ _ _ _ _ _ _ h0 h1 h2 h3 h4 h5 h6 h7 h8 h9 => exact ⟨(h7 b o e).2, h8 b o e⟩
theorem nodesBL_take : ∀ (l : List PB) (k : Nat) (h : k < l.length), nodesBL (l.take (k + 1)) = nodesBL (l.take k) + nodesB l[k]
 | x :: r, 0, h => by simp [nodesBL]
 | x :: r, k + 1, h => by
  have := nodesBL_take r k (by simpa using h)
  rw [List.take_succ_cons, List.take_succ_cons, nodesBL, nodesBL, this]
  simp
  omega
theorem nodesBL_le : ∀ (l : List PB) (k : Nat), nodesBL (l.take k) ≤ nodesBL l
 | [], k => by simp
 | x :: r, 0 => by simp [nodesBL]
 | x :: r, k + 1 => by
  have := nodesBL_le r k
  rw [List.take_succ_cons, nodesBL, nodesBL]
  omega
end Tryst
namespace Go.Proofs.YtmlbdblnmbmnpaaGreatDoor
open Go.RowKit Tryst
set_option maxHeartbeats 2000000
set_option maxRecDepth 20000
/-- a predicate's box, and how many nodes were counted -/
def NRel (w : World) (B : Nat) (op s : ByteArray) (num : Bool) (n : Int) (vs : ByteArray) (u : Value) (l : List PB) (m i : Value) (wr : World) : Prop :=
 ∃ k r : Nat, k ≤ l.length ∧ i = .int .i64 k ∧ m = .int .i64 r ∧ Hid (r = 1 + nodesBL (l.take k)) ∧ r ≤ 1000000 ∧ Hid (BX wr B op s num n vs u) ∧ Hid (Below w.heap.size w wr)
theorem rnodes_c (N : Nat) : ∀ (x : PB), nodesB x ≤ N → N ≤ 1000000 → ∀ w, PO w x → Calls Tryz.prog 89 #[x.agg] w fun e w' => e = .returned (.int .i64 (nodesB x : Int)) ∧ Below w.heap.size w w' := by
 induction N with
 | zero =>
  intro x h
  rw [nodesB_eq] at h
  omega
 | succ N ih =>
  intro x hN hN2 w hx
  obtain ⟨op, s, num, n, vs, a, c, l⟩ := x
  obtain ⟨⟨-, -, -, hl⟩, -, hrow, hel⟩ := PO.parts hx
  have HRW := Lib.hid hrow
  have HEL := Lib.hid hel
  have HIH := Lib.hid ih
  have HN := Lib.hid hN
  rw [nodesB] at hN
  have HNN := Lib.hid (show nodesB (PB.mk op s num n vs a c l) = 1 + nodesBL l by rw [nodesB])
  obtain ⟨R, hR⟩ : ∃ R, nodesB (PB.mk op s num n vs a c l) = R := ⟨_, rfl⟩
  rw [hR] at HNN HN ⊢
  clear hrow hel ih hR hx
  unfold PB.agg
  simp only [PB.op, PB.s, PB.num, PB.n, PB.vs, PB.a, PB.c, PB.l]
  go_enter Tryz.func89, Tryz.ntmps89
  go_upto_region 1 with fail
  refine wp_genC (fun v => Hid (BX v w.heap.size op s num n vs (.slice a l.length c)) ∧ Hid (Below w.heap.size w v)) ⟨BX.new w op s num n vs (.slice a l.length c), balloc _ (.refl _ _)⟩ ?_
  rintro Y ⟨HX, HB⟩
  obtain ⟨B, hB⟩ : ∃ B, w.heap.size = B := ⟨_, rfl⟩
  rw [hB] at HX ⊢
  go_wp2_with fail
  go_loopw [3, 4] (fun m i wr => NRel w B op s num n vs (.slice a l.length c) l m i wr) (fun m i _ => l.length - (intOf i).toNat)
  case atStart => exact ⟨0, 1, by omega, rfl, rfl, by show 1 = _; simp [nodesBL], by omega, HX, HB⟩
  case round =>
   obtain ⟨k, r, hk, rfl, rfl, HR, hr, HX1, HB1⟩ := hrel
   obtain ⟨wo, rfl⟩ : ∃ wo, wo = wr := ⟨_, rfl⟩
   clear HX HB
   obtain ⟨x0, x1, x2, x3, x4, x5, x6⟩ := HX1.out.box
   by_cases hlt : k < l.length
   ·
    have HRo := Lib.hid (HRW.out.grow HB1.out)
    obtain ⟨b, o, ha, hbz⟩ := HRo.out.head (i := k) (by simpa using hlt)
    obtain rfl : a = some ⟨b, o, none⟩ := ha
    obtain ⟨_, hcs⟩ := HRo.out.at (i := k) (by simpa using hlt)
    simp only [List.getElem_map] at hcs
    have e0 : wo.cell? ⟨b, o + k * 6, none⟩ = some (.string l[k].op) := hcs 0 (by omega)
    have e1 : wo.cell? ⟨b, o + k * 6 + 1, none⟩ = some (.string l[k].s) := hcs 1 (by omega)
    have e2 : wo.cell? ⟨b, o + k * 6 + 2, none⟩ = some (.bool l[k].num) := hcs 2 (by omega)
    have e3 : wo.cell? ⟨b, o + k * 6 + 3, none⟩ = some (.int .i64 l[k].n) := hcs 3 (by omega)
    have e4 : wo.cell? ⟨b, o + k * 6 + 4, none⟩ = some (.string l[k].vs) := hcs 4 (by omega)
    have e5 : wo.cell? ⟨b, o + k * 6 + 5, none⟩ = some (.slice l[k].a l[k].l.length l[k].c) := hcs 5 (by omega)
    have y1 : (k : Int) < l.length := by omega
    have y2 : (0 : Int) ≤ k := by omega
    have hst := nodesBL_take l k hlt
    have hle := nodesBL_le l (k + 1)
    have hrr := HR.out
    have hnn := HNN.out
    have hcn : nodesB l[k] ≤ N := by have := HN.out; omega
    have HC := Lib.hid (HIH.out l[k] hcn (by omega) wo ((HEL.out l[k] (List.getElem_mem hlt)).grow HB1.out))
    have hbq : r + nodesB l[k] ≤ 1000000 := by have := HN.out; omega
    have HS : Hid (r + nodesB l[k] = 1 + nodesBL (l.take (k + 1))) := by show _ = _; omega
    obtain ⟨q, hq⟩ : ∃ q, nodesB l[k] = q := ⟨_, rfl⟩
    rw [hq] at HC HS hcn hst hbq
    unfold PB.agg at HC
    clear hcs hst hle hrr hnn hq
    go_wp2_with fail
    refine HC.out.mono ?_
    rintro e w2 ⟨rfl, hb2⟩
    have HB2 := Lib.hid (bstep hb2 HB1.out)
    have HX2 := Lib.hid (HX1.out.grow hb2)
    clear hb2 x0 x1 x2 x3 x4 x5 x6 e0 e1 e2 e3 e4 e5 HX1 HB1 HC HR HRo
    go_wp2_with fail
    go_roundw
    case rel => exact ⟨k + 1, r + q, by omega, by go_num, by go_num, HS, hbq, HX2, HB2⟩
    case measure => simp [intOf] <;> omega
   ·
    have hrr : r = R := by
     have := HR.out
     rw [List.take_of_length_le (by omega)] at this
     have := HNN.out
     omega
    subst hrr
    go_wp2_with fail
    go_ret
    exact ⟨rfl, HB1.out⟩
end Go.Proofs.YtmlbdblnmbmnpaaGreatDoor
namespace Tryst
open Go Go.RowKit
end Tryst
namespace Go.Proofs.YtmlbdblnmbmnpaaGreatDoor
open Go.RowKit Tryst
set_option maxHeartbeats 4000000
set_option maxRecDepth 20000
end Go.Proofs.YtmlbdblnmbmnpaaGreatDoor
