/- the law OffsPuts. -/
import Derived.Test.YtmlbdblnmbmnpaaGreatDoorProg
import Derived.WalkKit
import Derived.WalkSpells
import Derived.WalkLawsBesides
import Derived.Lib.Hide
import Derived.Deep.RegionWith
import Derived.Deep.Cut
import Derived.IntWalk
import Derived.Test.YtmlbdblnmbmnpaaGreatDoorROffU
import Derived.Test.YtmlbdblnmbmnpaaGreatDoorAw14
import Derived.Test.YtmlbdblnmbmnpaaGreatDoorOpen14
set_option linter.unusedVariables false
set_option linter.unusedSimpArgs false
namespace Tryst
open Go Go.Lib
theorem withO_in {l : List OB} {x : OB} {N : Nat} (hl : ∀ z ∈ l, z.topic.size ≤ N) (hx : x.topic.size ≤ N) : (∀ z ∈ withO l x, z.topic.size ≤ N) ∧ (withO l x).length ≤ 2 * l.length + 1 := by
 unfold withO
 refine ⟨fun z hz => ?_, ?_⟩
 ·
  rcases List.mem_append.1 hz with h | h
  ·
   exact hl z (List.mem_filter.1 h).1
  ·
   rcases List.mem_cons.1 h with rfl | h
   ·
    exact hx
   ·
    exact hl z (List.mem_filter.1 h).1
 ·
  have h1 := List.length_filter_le (fun y : OB => lessB y.topic x.topic) l
  have h2 := List.length_filter_le (fun y : OB => lessB x.topic y.topic) l
  rw [List.length_append, List.length_cons]
  omega
theorem putO_in {l : List OB} {x : OB} {N : Nat} (hl : ∀ z ∈ l, z.topic.size ≤ N) (hx : x.topic.size ≤ N) : (∀ z ∈ (putO l x).1.getD [], z.topic.size ≤ N) ∧ ((putO l x).1.getD []).length ≤ 2 * l.length + 1 := by
 rcases putO_cases l x with h | h | h
 ·
  rw [h]; exact ⟨fun z hz => (by cases hz), (by simp)⟩
 ·
  rw [h]; exact ⟨fun z hz => (by cases hz), (by simp)⟩
 ·
  rw [h]; exact withO_in hl hx
theorem putO_zero {l : List OB} {x : OB} {o : Option (List OB)} (h : putO l x = (o, 0)) : o = some (withO l x) := by
 rcases putO_cases l x with e | e | e
 ·
  rw [e] at h; cases h
 ·
  rw [e] at h; cases h
 ·
  rw [e] at h; cases h; rfl
end Tryst
namespace Go.Proofs.YtmlbdblnmbmnpaaGreatDoor
open Go.RowKit Tryst
set_option maxHeartbeats 4000000
set_option maxRecDepth 20000
/-- offsets in memory -/
structure OL (w : World) (a : Option Addr) (c : Nat) (l : List OB) : Prop where
 r : OfR w a l
 s : Sl a c l.length
 z : ∀ x ∈ l, x.topic.size ≤ 100000
 n : l.length ≤ 10000
theorem OL.grow {w w' : World} {a : Option Addr} {c : Nat} {l : List OB} (h : OL w a c l) (hb : Below w.heap.size w w') : OL w' a c l := ⟨⟨Row.grow h.r.r hb⟩, h.s, h.z, h.n⟩
theorem OL.of {w : World} {base : Nat} {a : Option Addr} {c : Nat} {l : List OB} (h : OOwn w base (.slice a l.length c) l) (hz : ∀ x ∈ l, x.topic.size ≤ 100000) (hn : l.length ≤ 10000) : OL w a c l := by
 obtain ⟨a', c', hv, h1, h2, _⟩ := ROwn.row h (OB.cells_len l) (by decide)
 rw [List.length_map] at hv h2
 simp only [Value.slice.injEq, true_and] at hv
 obtain ⟨rfl, rfl⟩ := hv
 exact ⟨⟨h1⟩, h2, hz, hn⟩
def PutL (l : List OB) (x : OB) (N : Nat) (w : World) (e : Ending) (w' : World) : Prop := ∃ (a : Option Addr) (c : Nat) (lo : List OB) (ee : Int) (o : Option (List OB)), e = .returned (.tuple #[.slice a lo.length c, .int .i64 ee]) ∧ putO l x = (o, ee) ∧ lo = o.getD [] ∧ OL w' a c lo ∧ lo.length ≤ 2 * N + 1 ∧ Below w.heap.size w w'
theorem PutL.of {l : List OB} {x : OB} {N : Nat} {w w' : World} {e : Ending} (hz : ∀ z ∈ l, z.topic.size ≤ 100000) (hx : x.topic.size ≤ 100000) (hn : l.length ≤ N) (hN : N ≤ 1000) (h : PutR w (putO l x) e w') : PutL l x N w e w' := by
 obtain ⟨a, c, he, ho, hb⟩ := h
 obtain ⟨h1, h2⟩ := putO_in (x := x) hz hx
 exact ⟨a, c, _, _, _, he, rfl, rfl, OL.of ho h1 (by omega), by omega, hb⟩
theorem put_ol {a : Option Addr} {c : Nat} {l : List OB} {w : World} (h : OL w a c l) {N : Nat} (hN : N ≤ 1000) (hn : l.length ≤ N) (x : OB) (hx : x.topic.size ≤ 100000) (hM : MaxW w) :
  Calls Tryz.prog 13 #[.slice a l.length c, .string x.topic, .int .i64 x.next] w fun e w' => PutL l x N w e w' :=
 (oput_c a c l (by omega) h.s (fun z hz => Nat.le_trans (h.z z hz) (by decide)) x (Nat.le_trans hx (by decide)) w hM h.r.r).mono fun e w' hp => PutL.of h.z hx hn hN hp
theorem rput_ol {a : Option Addr} {c : Nat} {l : List OB} {w : World} (h : OL w a c l) {N : Nat} (hN : N ≤ 1000) (hn : l.length ≤ N) (x : OB) (hx : x.topic.size ≤ 100000) :
  Calls Tryz.prog 14 #[.slice a l.length c, .string x.topic, .int .i64 x.next] w fun e w' => PutL l x N w e w' :=
 (roput_c a c l (by omega) (fun z hz => Nat.le_trans (h.z z hz) (by decide)) x (Nat.le_trans hx (by decide)) w h.r.r).mono fun e w' hp => PutL.of h.z hx hn hN hp
theorem few_ol {a : Option Addr} {c : Nat} {l : List OB} {w : World} (hl : l.length ≤ 9223372036854775807) (hs : ∀ x ∈ l, x.topic.size ≤ 9223372036854775807) (hO : Offs w a l) :
  Calls Tryz.prog 10 #[.slice a l.length c] w fun e w' => ∃ a' c', e = .returned (.slice a' (fewOs l).length c') ∧ OL w' a' c' (fewOs l) ∧ (∀ b o, a' = some ⟨b, o, none⟩ → w.heap.size ≤ b) ∧ Below w.heap.size w w' :=
 (offsF_c a c l hl hs w hO).mono fun e w' h => by
  obtain ⟨a', c', he, ho, hb⟩ := h
  exact ⟨a', c', he, OL.of ho (fun x hx => Nat.le_trans (fewOs_size l x hx) (by decide)) (Nat.le_trans (fewOs_len l) (by decide)), fun b o e => by subst e; exact (World.ownsRow.lt ho b rfl).1, hb⟩
/-- two offsets' boxes -/
structure X2 (w v : World) (g0 g1 : Nat) (t : ByteArray) (n : Int) (t' : ByteArray) (n' : Int) : Prop where
 a : OX v g0 t n
 b : OX v g1 t' n'
 l : Below w.heap.size w v
theorem X2.grow {w v v' : World} {g0 g1 : Nat} {t : ByteArray} {n : Int} {t' : ByteArray} {n' : Int} (h : X2 w v g0 g1 t n t' n') (hb : Below v.heap.size v v') : X2 w v' g0 g1 t n t' n' := ⟨h.a.grow hb, h.b.grow hb, bstep hb h.l⟩
theorem X2.new (w : World) (t : ByteArray) (n : Int) (t' : ByteArray) (n' : Int) : X2 w ((w.alloc (.cells #[.string t, .int .i64 n] 31)).alloc (.cells #[.string t', .int .i64 n'] 31)) w.heap.size (w.heap.size + 1) t n t' n' := by
 have e1 := OX.new (w.alloc (.cells #[.string t, .int .i64 n] 31)) t' n'
 rw [show (w.alloc (.cells #[.string t, .int .i64 n] 31)).heap.size = w.heap.size + 1 by simp] at e1
 exact ⟨(OX.new _ _ _).grow (balloc _ (.refl _ _)), e1, balloc _ (balloc _ (.refl _ _))⟩
theorem OX.away {w : World} {g : Nat} {t : ByteArray} {n : Int} (h : OX w g t n) {c o : Nat} (hc : c ≠ g) (v : Value) : OX (w.setCell ⟨c, o, none⟩ v) g t n := (Below.heap_setCell _ _ _ _ (fun e => hc e.symm)).trans h
theorem OX.set0 {w : World} {g : Nat} {t : ByteArray} {n : Int} (h : OX w g t n) (t' : ByteArray) : OX (w.setCell ⟨g, 0, none⟩ (.string t')) g t' n := by
 unfold OX at h ⊢
 simp [World.setCell, Array.getElem?_modify, h]
theorem OX.fz {w : World} {g : Nat} {t : ByteArray} {n : Int} (h : OX w g t n) (j : Nat) : w.frozen? ⟨g, j, none⟩ = false := by
 unfold OX at h
 simp [World.frozen?, h]
theorem OL.away {w : World} {a : Option Addr} {c : Nat} {l : List OB} (h : OL w a c l) {g j : Nat} (hg : ∀ b o, a = some ⟨b, o, none⟩ → g ≠ b) (u : Value) : OL (w.setCell ⟨g, j, none⟩ u) a c l := ⟨⟨Row.away h.r.r hg u⟩, h.s, h.z, h.n⟩
set_option maxHeartbeats 16000000 in
theorem offsPuts_c (a : Option Addr) (l : List OB) (c : Nat) (x y : OB) (w : World) (hM : MaxW w) (hO : Offs w a l) (hI : ∀ z ∈ l, OIn z) (hl : l.length ≤ 9223372036854775807) (hx : OIn x) (hy : OIn y) :
  Calls Tryz.prog 5 #[.slice a l.length c, .agg #[.string x.topic, .int .i64 x.next], .agg #[.string y.topic, .int .i64 y.next]] w fun e w' => e = .returned (.bool true) ∧ Below w.heap.size w w' := by
 have HM := Lib.hid (fun W (hb : Below w.heap.size w W) => hM.grow hb)
 have CF := Lib.hid (fun W (hb : Below w.heap.size w W) => few_ol (a := a) (c := c) (w := W) hl (fun z hz => (hI z hz).1) (Row.grow hO hb))
 have CX := Lib.hid (fun W => few60_c x.topic hx.1 W)
 have CY := Lib.hid (fun W => few60_c y.topic hy.1 W)
 have CA := Lib.hid (fun W (hb : Below w.heap.size w W) => awake14_c W (hM.grow hb))
 obtain ⟨tx, nx⟩ := x
 obtain ⟨ty, ny⟩ := y
 simp only at CX CY ⊢
 have u1 := few60_le tx
 have u2 := few60_le ty
 generalize few60 tx = tx1 at CX u1
 generalize few60 ty = ty1 at CY u2
 have u3 := fewOs_len l
 clear hM hO hI hx hy
 obtain ⟨L, hL⟩ : ∃ L, fewOs l = L := ⟨_, rfl⟩
 rw [hL] at CF u3
 clear hL
 have U1 : Hid (tx1.size ≤ 100000) := by show _ ≤ _; omega
 have U2 : Hid (ty1.size ≤ 100000) := by show _ ≤ _; omega
 have U3 : Hid (L.length ≤ 21) := Lib.hid u3
 clear u1 u2 u3
 go_enter Tryz.func5, Tryz.ntmps5
 go_upto_region 1 with fail
 refine wp_genC (fun v => Hid (X2 w v w.heap.size (w.heap.size + 1) tx nx ty ny)) (X2.new _ _ _ _ _) ?_
 rintro Y HY
 have hg01 : w.heap.size ≠ w.heap.size + 1 := by omega
 have HB0 := Lib.hid HY.out.l
 go_wp2_with fail
 refine (CF.out _ HB0.out).mono ?_
 rintro e w1 ⟨a1, c1, rfl, hL1, hA1, hb1⟩
 have HY1 := Lib.hid (HY.out.grow hb1)
 have HL1 := Lib.hid hL1
 have hz0 : w.heap.size + 1 < Y.heap.size := HY.out.b.box.1
 have HA1 : Hid (∀ b o, a1 = some ⟨b, o, none⟩ → w.heap.size + 1 < b) := Lib.hid (fun b o e => by have := hA1 b o e; omega)
 clear hb1 hL1 HY HB0 CF hA1 hz0
 obtain ⟨X, hX⟩ : ∃ X, w.heap.size = X := ⟨_, rfl⟩
 obtain ⟨Z, hZ⟩ : ∃ Z, w.heap.size + 1 = Z := ⟨_, rfl⟩
 have hwX : w.heap.size ≤ X := by omega
 have hwZ : w.heap.size ≤ Z := by omega
 have hXZ : X ≠ Z := by omega
 have HAX : Hid (∀ b o, a1 = some ⟨b, o, none⟩ → X ≠ b ∧ Z ≠ b) := Lib.hid (fun b o e => by have := HA1.out b o e; omega)
 rw [hZ, hX] at HY1
 rw [hZ, hX]
 clear hZ hX HA1 hg01
 obtain ⟨x0, x1, x2⟩ := HY1.out.a.box
 obtain ⟨y0, y1, y2⟩ := HY1.out.b.box
 go_upto_region 2 with fail
 have HYd := Lib.hid (HY1.out.grow (bdrew (.refl _ _)))
 have HLd := Lib.hid (HL1.out.grow (bdrew (.refl _ _)))
 have f0 := HY1.out.a.fz 0
 have f1 := HY1.out.b.fz 0
 refine cut_then (fun (cc : Act) v => cc = ⟨#[.slice a1 L.length c1, .agg #[.string tx, .int .i64 nx], .agg #[.string ty, .int .i64 ny], undef, .pointer (some ⟨X, 0, none⟩), .pointer (some ⟨Z, 0, none⟩), .bool false, undef, undef, undef, undef, undef, undef, undef, undef, .slice a l.length c, .slice a1 L.length c1, .pointer (some ⟨X, 0, none⟩), .string tx, .string tx1, .pointer (some ⟨Z, 0, none⟩), .string ty, .string ty1, .pointer (some ⟨X, 0, none⟩), .pointer (some ⟨Z, 0, none⟩), undef, undef, undef, undef, undef, undef, undef, undef, undef, undef, undef, undef, undef, undef, undef, undef, undef, undef, undef, undef, undef, undef, undef, undef, undef, undef, undef, undef, undef, undef, undef, undef, undef, undef, undef, undef, undef, undef, undef, undef, undef, undef, undef, undef, undef, undef, undef, undef, undef, undef, undef, undef, undef, undef, undef, undef, undef, undef, undef, undef, undef, undef, undef, undef, undef, undef, undef, undef, undef, undef, undef, undef, undef, undef, undef, undef, undef, undef, undef, undef, undef, undef, undef, undef], []⟩ ∧ Hid (X2 w v X Z tx1 nx ty1 ny) ∧ Hid (OL v a1 c1 L)) ?_ ?_
 case refine_1 =>
  go_region_with (go_at_call 12; (first | refine (CX.out _).mono ?_ | refine (CY.out _).mono ?_); rintro e w2 ⟨rfl, rfl⟩)
  all_goals first
   | exact ⟨rfl, ⟨(HYd.out.a.set0 tx1).away (fun e => hXZ e.symm) _, (HYd.out.b.away hXZ _).set0 ty1, bset _ hwZ (bset _ hwX HYd.out.l)⟩, (HLd.out.away (fun b o e => (HAX.out b o e).1) _).away (fun b o e => (HAX.out b o e).2) _⟩
   | exact ⟨rfl, ⟨(HYd.out.a.away (fun e => hXZ e.symm) _).set0 tx1, (HYd.out.b.set0 ty1).away hXZ _, bset _ hwX (bset _ hwZ HYd.out.l)⟩, (HLd.out.away (fun b o e => (HAX.out b o e).2) _).away (fun b o e => (HAX.out b o e).1) _⟩
 case refine_2 =>
  rintro cc V ⟨rfl, HV, HL⟩
  clear x0 x1 x2 y0 y1 y2 f0 f1 HY1 HL1 HYd HLd HAX CX CY
  have HB2 := Lib.hid HV.out.l
  have HG2 : Hid (Below V.heap.size V V) := Lib.hid (.refl _ _)
  have C1 := Lib.hid (put_ol HL.out (N := 21) (by omega) U3.out ⟨tx1, nx⟩ U1.out (HM.out _ HB2.out))
  obtain ⟨x0, x1, x2⟩ := HV.out.a.box
  go_wp2_with fail
  refine C1.out.mono ?_
  rintro e w3 ⟨a3, c3, l3, e3, o3, rfl, hp3, hl3, hL3, hn3, hb3⟩
  have HV3 := Lib.hid (HV.out.grow hb3)
  have HL3 := Lib.hid hL3
  have HP3 := Lib.hid (And.intro hp3 hl3)
  have HG3 := Lib.hid (bstep hb3 HG2.out)
  have C2 := Lib.hid (put_ol hL3 (N := 43) (by omega) (by omega) ⟨ty1, ny⟩ U2.out (HM.out _ HV3.out.l))
  clear hp3 hl3 hL3 hn3 hb3 x0 x1 x2 C1
  obtain ⟨y0, y1, y2⟩ := HV3.out.b.box
  simp only
  go_wp2_with fail
  refine C2.out.mono ?_
  rintro e w4 ⟨a4, c4, l4, e4, o4, rfl, hp4, hl4, hL4, hn4, hb4⟩
  have HV4 := Lib.hid (HV3.out.grow hb4)
  have HL4 := Lib.hid hL4
  have HL34 := Lib.hid (HL3.out.grow hb4)
  have HP4 := Lib.hid (And.intro hp4 hl4)
  have HG4 := Lib.hid (bstep hb4 HG3.out)
  have C3 := Lib.hid (put_ol (HL.out.grow HG4.out) (N := 21) (by omega) U3.out ⟨ty1, ny⟩ U2.out (HM.out _ HV4.out.l))
  clear hp4 hl4 hL4 hn4 hb4 y0 y1 y2 C2 HV3 HL3
  obtain ⟨y0, y1, y2⟩ := HV4.out.b.box
  simp only
  go_wp2_with fail
  refine C3.out.mono ?_
  rintro e w5 ⟨a5, c5, l5, e5, o5, rfl, hp5, hl5, hL5, hn5, hb5⟩
  have HV5 := Lib.hid (HV4.out.grow hb5)
  have HL35 := Lib.hid (HL34.out.grow hb5)
  have HL45 := Lib.hid (HL4.out.grow hb5)
  have HP5 := Lib.hid (And.intro hp5 hl5)
  have HG5 := Lib.hid (bstep hb5 HG4.out)
  have C4 := Lib.hid (put_ol hL5 (N := 43) (by omega) (by omega) ⟨tx1, nx⟩ U1.out (HM.out _ HV5.out.l))
  clear hp5 hl5 hL5 hn5 hb5 y0 y1 y2 C3 HV4 HL34 HL4
  obtain ⟨x0, x1, x2⟩ := HV5.out.a.box
  simp only
  go_wp2_with fail
  refine C4.out.mono ?_
  rintro e w6 ⟨a6, c6, l6, e6, o6, rfl, hp6, hl6, hL6, hn6, hb6⟩
  have HV6 := Lib.hid (HV5.out.grow hb6)
  have HL36 := Lib.hid (HL35.out.grow hb6)
  have HL46 := Lib.hid (HL45.out.grow hb6)
  have HL6 := Lib.hid hL6
  have HP6 := Lib.hid (And.intro hp6 hl6)
  have HG6 := Lib.hid (bstep hb6 HG5.out)
  have HL0 := Lib.hid (HL.out.grow HG6.out)
  have HB6 := Lib.hid HV6.out.l
  clear hp6 hl6 hL6 hn6 hb6 x0 x1 x2 C4 HV5 HL35 HL45 HL HV HG2 HG3 HG4 HG5
  obtain ⟨x0, x1, x2⟩ := HV6.out.a.box
  obtain ⟨y0, y1, y2⟩ := HV6.out.b.box
  simp only
  by_cases h1 : e3 = 0
  ·
   by_cases h2 : e4 = 0
   ·
    by_cases h3 : e5 = 0
    ·
     by_cases h4 : e6 = 0
     ·
      subst h1 h2 h3 h4
      by_cases h5 : tx1 = ty1
      ·
       subst h5
       go_wp2_with fail
       refine (CA.out _ HB6.out).mono ?_
       rintro e w8 ⟨rfl, hb8⟩
       have HB8 := Lib.hid (bstep hb8 HB6.out)
       clear hb8
       go_wp2_with fail
       go_ret
       exact ⟨rfl, HB8.out⟩
      ·
       obtain rfl : o3 = some (withO L ⟨tx1, nx⟩) := putO_zero HP3.out.1
       obtain rfl : l3 = withO L ⟨tx1, nx⟩ := HP3.out.2
       obtain rfl : o4 = some (withO (withO L ⟨tx1, nx⟩) ⟨ty1, ny⟩) := putO_zero HP4.out.1
       obtain rfl : l4 = withO (withO L ⟨tx1, nx⟩) ⟨ty1, ny⟩ := HP4.out.2
       obtain rfl : o5 = some (withO L ⟨ty1, ny⟩) := putO_zero HP5.out.1
       obtain rfl : l5 = withO L ⟨ty1, ny⟩ := HP5.out.2
       obtain rfl : o6 = some (withO (withO L ⟨ty1, ny⟩) ⟨tx1, nx⟩) := putO_zero HP6.out.1
       obtain rfl : l6 = withO (withO L ⟨ty1, ny⟩) ⟨tx1, nx⟩ := HP6.out.2
       have E1 : withO (withO L ⟨ty1, ny⟩) ⟨tx1, nx⟩ = withO (withO L ⟨tx1, nx⟩) ⟨ty1, ny⟩ := by
        rcases lessB_total tx1 ty1 with h | h | h
        ·
         exact (withO_comm (x := ⟨tx1, nx⟩) (y := ⟨ty1, ny⟩) h L).symm
        ·
         exact absurd h h5
        ·
         exact withO_comm (x := ⟨ty1, ny⟩) (y := ⟨tx1, nx⟩) h L
       have E2 : getO (withO (withO L ⟨tx1, nx⟩) ⟨ty1, ny⟩) tx1 = nx := by
        rw [getO_withO_ne _ _ (n := tx1) (fun e => h5 e.symm)]
        exact getO_withO L ⟨tx1, nx⟩
       have E3 : getO (withO L ⟨tx1, nx⟩) ty1 = getO L ty1 := getO_withO_ne _ _ h5
       rw [E1] at HL6 ⊢
       have CS := Lib.hid (fun W (hb : Below w6.heap.size w6 W) => osame_c a4 a6 c4 c6 _ _ (Nat.le_trans HL46.out.n (by decide)) (Nat.le_trans HL46.out.n (by decide)) W (Row.grow HL46.out.r.r hb) (Row.grow HL6.out.r.r hb))
       have G1 := Lib.hid (fun W (hb : Below w6.heap.size w6 W) => oget_c tx1 a4 c4 _ (Nat.le_trans HL46.out.n (by decide)) W (Row.grow HL46.out.r.r hb))
       have G2 := Lib.hid (fun W (hb : Below w6.heap.size w6 W) => oget_c ty1 a3 c3 _ (Nat.le_trans HL36.out.n (by decide)) W (Row.grow HL36.out.r.r hb))
       have G3 := Lib.hid (fun W (hb : Below w6.heap.size w6 W) => oget_c ty1 a1 c1 _ (Nat.le_trans HL0.out.n (by decide)) W (Row.grow HL0.out.r.r hb))
       have CA6 := Lib.hid (fun W (hb : Below w6.heap.size w6 W) => CA.out W (bstep hb HB6.out))
       rw [sameO_self] at CS
       rw [E2] at G1
       rw [E3] at G2
       have b5 : (tx1.toList == ty1.toList) = false := strNe (fun e => h5 (str_ext e))
       clear E1 E2 E3 HP3 HP4 HP5 HP6 h5 HL0 HL36 HL46 HL6 HV6 CA
       generalize getO L ty1 = gg at G2 G3
       generalize withO (withO L ⟨tx1, nx⟩) ⟨ty1, ny⟩ = W2 at CS G1 ⊢
       generalize withO L ⟨tx1, nx⟩ = W1 at G2 ⊢
       generalize withO L ⟨ty1, ny⟩ = W3 at *
       go_upto_region 9 with fail
       refine Tryst2.wp_region_grows [.is (.slice a4 W2.length c4), .is (.slice a6 W2.length c6), .is (.bool true), .is (.bool true), .is (.slice a4 W2.length c4), .is (.pointer (some ⟨X, 0, none⟩)), .is (.string tx1), .is (.int .i64 nx), .is (.pointer (some ⟨X, 1, none⟩)), .is (.int .i64 nx), .is (.bool true), .is (.bool true), .is (.bool true), .is (.slice a3 W1.length c3), .is (.pointer (some ⟨Z, 0, none⟩)), .is (.string ty1), .is (.int .i64 gg), .is (.slice a1 L.length c1), .is (.pointer (some ⟨Z, 0, none⟩)), .is (.string ty1), .is (.int .i64 gg), .is (.bool true), .is (.bool true), .is (.bool true), .is (.bool true), .is (.bool true)] (by kernel_rfl) (by kernel_rfl) ?obl ?fin
       case obl =>
        simp only [Tryst2.AllObl, Tryst2.dstL, Tryst2.Obl, Tryst2.depsOf, Tryst2.binds_data, Tryst2.binds_chain, Tryst2.binds_phase, Tryst2.binds_guard, Tryst2.binds_text, Tryst2.binds_gc, Bool.false_eq_true, if_false, List.filterMap_cons_some, List.filterMap_cons_none, Tryst2.depsR, Tryst2.holdR, Tryst2.tmpsOf, Op.operands, Call.operands, Tryst2.Rsp.pred, Tryst2.wantedV_none, Tryst2.wantedV_some, if_true, List.map_cons, List.map_nil, List.length_map, List.take_succ_cons, List.take_zero, List.length_cons, List.length_nil, List.getElem?_cons_zero, List.getElem?_cons_succ, Option.bind_some, id, List.getD_cons_zero, List.getD_cons_succ, Tryst2.isDst, List.filterMap_cons, List.filterMap_nil, List.toList_toArray]
        repeat' apply And.intro
        any_goals trivial
        all_goals (intro tv w' hg hold hd; (try simp at hold); obtain ⟨hcg, hfg⟩ := Tryst2.Grow.cells hg; have hsg := Tryst2.Grow.le hg)
        all_goals first | (go_simp; done) | (go_simp; rw [if_neg (by omega)]; exact ⟨.refl _, rfl⟩) | (obtain ⟨⟨g, hvg, hgg, hcell⟩, _⟩ := hd; have hcell0 := hcell 0 (by decide); simp at hcell0; go_simp; done) | (go_simp; go_at_call 17; (with_reducible refine (CS.out _ ?_).mono ?_); (exact Tryst2.Grow.below hg (.refl _ _)); rintro e w8 ⟨rfl, hb8⟩; exact ⟨hb8, rfl⟩) | (go_simp; go_at_call 22; (with_reducible refine (CA6.out _ ?_).mono ?_); (exact Tryst2.Grow.below hg (.refl _ _)); rintro e w8 ⟨rfl, hb8⟩; exact ⟨hb8, rfl⟩) | (go_simp; go_at_call 18; (first | (with_reducible refine (G1.out _ ?_).mono ?_) | (with_reducible refine (G2.out _ ?_).mono ?_) | (with_reducible refine (G3.out _ ?_).mono ?_)); (exact Tryst2.Grow.below hg (.refl _ _)); rintro e w8 ⟨rfl, hb8⟩; exact ⟨hb8, rfl⟩)
       case fin =>
        intro tv w' hg hR
        simp only [Tryst2.allR, Tryst2.dstL, Tryst2.Rsp.pred, List.map_cons, List.map_nil, List.take_succ_cons, List.take_zero, List.length_cons, List.length_nil, List.tail_cons, List.toList_toArray] at hR
        obtain ⟨hcg, hfg⟩ := Tryst2.Grow.cells hg
        have hsg := Tryst2.Grow.le hg
        simp only [Tryst2.putAll, Tryst2.dstL, List.map_cons, List.map_nil, List.take_succ_cons, List.take_zero, List.length_cons, List.length_nil, List.toList_toArray, List.drop_succ_cons, List.drop_zero, Act.put, List.setIfInBounds_toArray, List.set_cons_zero, List.set_cons_succ, hR]
        have HB10 := Lib.hid (bstep (Tryst2.Grow.below hg (.refl _ _)) HB6.out)
        clear hg hR hcg hfg hsg
        go_wp2_with fail
        go_ret
        exact ⟨rfl, HB10.out⟩
     ·
      have b1 : (e6 == 0) = false := by simpa using h4
      subst h1 h2 h3
      go_wp2_with fail
      refine (CA.out _ HB6.out).mono ?_
      rintro e w8 ⟨rfl, hb8⟩
      have HB8 := Lib.hid (bstep hb8 HB6.out)
      clear hb8
      go_wp2_with fail
      go_ret
      exact ⟨rfl, HB8.out⟩
    ·
     have b1 : (e5 == 0) = false := by simpa using h3
     subst h1 h2
     go_wp2_with fail
     refine (CA.out _ HB6.out).mono ?_
     rintro e w8 ⟨rfl, hb8⟩
     have HB8 := Lib.hid (bstep hb8 HB6.out)
     clear hb8
     go_wp2_with fail
     go_ret
     exact ⟨rfl, HB8.out⟩
   ·
    have b1 : (e4 == 0) = false := by simpa using h2
    subst h1
    go_wp2_with fail
    refine (CA.out _ HB6.out).mono ?_
    rintro e w8 ⟨rfl, hb8⟩
    have HB8 := Lib.hid (bstep hb8 HB6.out)
    clear hb8
    go_wp2_with fail
    go_ret
    exact ⟨rfl, HB8.out⟩
  ·
   have b1 : (e3 == 0) = false := by simpa using h1
   go_wp2_with fail
   refine (CA.out _ HB6.out).mono ?_
   rintro e w8 ⟨rfl, hb8⟩
   have HB8 := Lib.hid (bstep hb8 HB6.out)
   clear hb8
   go_wp2_with fail
   go_ret
   exact ⟨rfl, HB8.out⟩
end Go.Proofs.YtmlbdblnmbmnpaaGreatDoor
