/- joined: offs.Check, Get, Put. -/
import Derived.Test.YtmlbdblnmbmnpaaGreatDoorProg
import Derived.WalkKit
import Derived.WalkSpells
import Derived.WalkLawsBesides
import Derived.Lib.Hide
import Derived.Deep.RegionWith
import Derived.Deep.Cut
import Derived.IntWalk
import Derived.Lib.LazyBuf
import Derived.Lib.BufferMore
import Derived.Lib.Overlaps
import Derived.Lib.AppendZerosOnto
import Derived.Test.YtmlbdblnmbmnpaaGreatDoorRowK
import Derived.Test.YtmlbdblnmbmnpaaGreatDoorTopAD
import Derived.Test.YtmlbdblnmbmnpaaGreatDoorTopFN
import Derived.Test.YtmlbdblnmbmnpaaGreatDoorOffPL
import Derived.Test.YtmlbdblnmbmnpaaGreatDoorNmA
set_option linter.unusedVariables false
set_option linter.unusedSimpArgs false
namespace Tryst
open Go Go.RowKit
def OB.cells (t : OB) : List Value := [.string t.topic, .int .i64 t.next]
theorem OB.cells_len (l : List OB) : ∀ x ∈ l.map OB.cells, x.length = 2 := by
 intro x hx
 obtain ⟨t, _, rfl⟩ := List.mem_map.1 hx
 rfl
theorem OB.cells_one (l : List OB) : ∀ x ∈ l.map OB.cells, ∀ u ∈ x, u.oneCell' = true := by
 intro x hx u hu
 obtain ⟨t, _, rfl⟩ := List.mem_map.1 hx
 simp [OB.cells] at hu
 rcases hu with rfl | rfl <;> rfl
structure OAt (w : World) (b o : Nat) (t : OB) : Prop where
 c0 : w.cell? ⟨b, o, none⟩ = some (.string t.topic)
 c1 : w.cell? ⟨b, o + 1, none⟩ = some (.int .i64 t.next)
abbrev Offs (w : World) (a : Option Addr) (l : List OB) : Prop := Row w a 2 (l.map OB.cells)
theorem Offs.at {w : World} {b o : Nat} {l : List OB} (h : Offs w (some ⟨b, o, none⟩) l) {i : Nat} (hi : i < l.length) : b < w.heap.size ∧ OAt w b (o + i * 2) l[i] := by
 obtain ⟨h1, h2⟩ := Row.at h (i := i) (by simpa using hi)
 simp only [List.getElem_map] at h2
 exact ⟨h1, h2 0 (by omega), h2 1 (by omega)⟩
/-- offsets, with their head -/
structure OfR (w : World) (a : Option Addr) (l : List OB) : Prop where
 r : Offs w a l
theorem OfR.head {w : World} {a : Option Addr} {l : List OB} (h : OfR w a l) {i : Nat} (hi : i < l.length) : ∃ b o, a = some ⟨b, o, none⟩ ∧ b < w.heap.size := Row.head h.r (by simpa using hi)
end Tryst
namespace Go.Proofs.YtmlbdblnmbmnpaaGreatDoor
open Go.RowKit Tryst
set_option maxHeartbeats 1000000
set_option maxRecDepth 20000
def CloneKO (e : TypeId) (k : Nat) (w : World) (r : List (List Value)) (n : Nat) (x : Ending) (w' : World) : Prop := ∃ a c, x = .returned (.slice a n c) ∧ ROwn e k w' w.heap.size (.slice a n c) r ∧ Below w.heap.size w w'
def OOwn (w : World) (base : Nat) (v : Value) (l : List OB) : Prop := ROwn 31 2 w base v (l.map OB.cells)
theorem OOwn.grow {w w' : World} {base : Nat} {v : Value} {l : List OB} (h : OOwn w base v l) (hb : Below w.heap.size w w') : OOwn w' base v l := ROwn.grow h hb
theorem OOwn.block {w : World} {base : Nat} {v : Value} {l : List OB} (h : OOwn w base v l) (h0 : 0 < l.length) :
  ∃ g c, v = .slice (some ⟨g, 0, none⟩) l.length c ∧ base ≤ g ∧ g < w.heap.size ∧ (∀ j, w.frozen? ⟨g, j, none⟩ = false) := by
 obtain ⟨g, c, hv, h1, h2, h3, h4, h5⟩ := ROwn.block h (OB.cells_len l) (by simpa using h0)
 rw [List.length_map] at hv
 exact ⟨g, c, hv, h1, h2, h3⟩
theorem offT : SliceOf Tryz.prog 28 31 2 24 := .mk' Tryz.underlying28 (z := .agg #[.string ⟨#[]⟩, .int .i64 0]) (by kernel_rfl) rfl (by decide) (by decide)
theorem cloneO_c (a : Option Addr) (c : Nat) (l : List OB) (hl : l.length ≤ 1000000000) (w : World) (hF : Row w a 2 (l.map OB.cells)) (hS : Sl a c l.length) :
  Calls Tryz.prog 41 #[.slice a l.length c] w fun e w' => CloneKO 31 2 w (l.map OB.cells) l.length e w' := by
 have hF' := hF
 have hrl := OB.cells_len l
 have hr1 := OB.cells_one l
 have hlr : (l.map OB.cells).length = l.length := List.length_map ..
 generalize l.map OB.cells = r at hF hF' hrl hr1 hlr ⊢
 generalize l.length = n at hl hS hlr ⊢
 have HF := Lib.hid hF'
 have HRL := Lib.hid hrl
 have HR1 := Lib.hid hr1
 have HLR := Lib.hid hlr
 obtain ⟨s1, s2, s3⟩ := hS
 clear hF hF' hrl hr1 hlr
 have hq := fun (w : World) (a : Option Addr) (n c : Nat) => Lib.run_eql_slice_nil (P := Tryz.prog) w 28 31 a n c 0 0 Tryz.underlying28
 cases a with
 | none =>
  obtain rfl : c = 0 := s3 rfl
  obtain rfl : n = 0 := by omega
  obtain rfl : r = [] := List.eq_nil_of_length_eq_zero HLR.out
  clear s2 s3 s1 HLR
  go_enter Tryz.func41, Tryz.ntmps41
  go_wp2_with fail
  go_ret
  exact ⟨none, 0, rfl, ROwn.nil _ _ _ _, .refl _ _⟩
 | some A =>
  obtain ⟨b, o, sp⟩ := A
  obtain rfl : sp = none := s2 _ rfl
  clear s2 s3
  go_enter Tryz.func41, Tryz.ntmps41
  have HO := Lib.hid (ROwn.empty 31 2 w w.heap.size (Nat.le_refl _))
  have HF2 := Lib.hid (HF.out.grow (balloc (.cells #[] 31) (.refl _ w)))
  go_wp2_with (at_builtin; refine wpList_appRS offT rfl _ _ rfl w.heap.size _ [] 0 rfl rfl HO.out r n HLR.out HRL.out HR1.out b o c rfl HF2.out (by omega) (by simp) ?_; intro v' w1 ho hb)
  go_ret
  obtain ⟨a', c', hv, _⟩ := ho.row (fun x hx => HRL.out x (by simpa using hx)) (by decide)
  rw [List.nil_append] at ho hv
  rw [HLR.out] at hv
  subst hv
  exact ⟨a', c', rfl, ho, (balloc _ (.refl _ _)).trans hb⟩
def InsO (w : World) (base : Nat) (v : Value) (l : List OB) (e : Ending) (w' : World) : Prop := ∃ a c, e = .returned (.slice a l.length c) ∧ OOwn w' base (.slice a l.length c) l ∧ Below base w w' ∧ ∀ k, k < w.heap.size → Away v k → w'.heap[k]? = w.heap[k]?
theorem oins_end (base : Nat) (a : Option Addr) (c : Nat) (l : List OB) (hl : l.length ≤ 1000000) (t : OB) (gv : Nat) (w : World) (hO : OOwn w base (.slice a l.length c) l) (hb : base ≤ w.heap.size) (hT : OAt w gv 0 t) :
  Calls Tryz.prog 42 #[.slice a l.length c, .int .i64 l.length, .slice (some ⟨gv, 0, none⟩) 1 1] w fun e w' => InsO w base (.slice a l.length c) (l ++ [t]) e w' := by
 obtain ⟨a', c', hv, hrow, hsl, h9⟩ := ROwn.row hO (OB.cells_len l) (by decide)
 rw [List.length_map] at hv hsl
 simp only [Value.slice.injEq, true_and] at hv
 obtain ⟨h1, h2⟩ := hv
 subst h1 h2
 obtain ⟨s1, s2, s3⟩ := hsl
 have HO := Lib.hid hO
 obtain ⟨t0, t1⟩ := hT
 simp only [Nat.zero_add] at t1
 have HT : Hid (∀ j, j < 2 → w.cell? ⟨gv, j, none⟩ = t.cells[j]?) := Lib.hid (fun j hj => by
  match j, hj with
  | 0, _ => exact t0
  | 1, _ => exact t1)
 have HLN : Hid ((l.map OB.cells).length = l.length) := Lib.hid (List.length_map ..)
 have H1 : Hid (∀ u ∈ t.cells, u.oneCell' = true) := Lib.hid (fun u hu => OB.cells_one [t] t.cells (by simp) u hu)
 have HS2 := Lib.hid s2
 have HS3 := Lib.hid s3
 clear hO hrow t0 t1 s2 s3
 have H9 := Lib.hid h9
 clear h9
 cases a with
 | none =>
  obtain rfl : c = 0 := HS3.out rfl
  go_enter Tryz.func42, Tryz.ntmps42
  go_wp2_with (at_builtin; refine wpList_appR offT rfl _ _ rfl base (.slice none l.length 0) (l.map OB.cells) l.length HLN.out rfl HO.out t.cells rfl H1.out gv rfl HT.out (by omega) hb ?_; intro v' w1 ho hbw hk)
  all_goals
   have ho2 : OOwn w1 base v' (l ++ [t]) := by
    show ROwn _ _ _ _ _ ((l ++ [t]).map OB.cells)
    rw [List.map_append]
    exact ho
   obtain ⟨a', c', hv, _⟩ := ROwn.row ho2 (OB.cells_len _) (by decide)
   rw [List.length_map] at hv
   subst hv
   go_ret
   exact ⟨a', c', rfl, ho2, hbw, hk⟩
 | some A =>
  obtain ⟨b, o, sp⟩ := A
  obtain rfl : sp = none := HS2.out _ rfl
  obtain rfl : o = 0 := (H9.out b o rfl).2.2
  clear H9
  by_cases hc : c = l.length
  ·
   subst hc
   go_enter Tryz.func42, Tryz.ntmps42
   go_wp2_with (at_builtin; refine wpList_appR offT rfl _ _ rfl base (.slice (some ⟨b, 0, none⟩) l.length l.length) (l.map OB.cells) l.length HLN.out rfl HO.out t.cells rfl H1.out gv rfl HT.out (by omega) hb ?_; intro v' w1 ho hbw hk)
   all_goals
    have ho2 : OOwn w1 base v' (l ++ [t]) := by
     show ROwn _ _ _ _ _ ((l ++ [t]).map OB.cells)
     rw [List.map_append]
     exact ho
    obtain ⟨a', c', hv, _⟩ := ROwn.row ho2 (OB.cells_len _) (by decide)
    rw [List.length_map] at hv
    subst hv
    go_ret
    exact ⟨a', c', rfl, ho2, hbw, hk⟩
  ·
   go_enter Tryz.func42, Tryz.ntmps42
   go_wp2_with (at_builtin; refine wpList_appR offT rfl _ _ rfl base (.slice (some ⟨b, 0, none⟩) l.length c) (l.map OB.cells) l.length HLN.out rfl HO.out t.cells rfl H1.out gv rfl HT.out (by omega) hb ?_; intro v' w1 ho hbw hk)
   all_goals
    have ho2 : OOwn w1 base v' (l ++ [t]) := by
     show ROwn _ _ _ _ _ ((l ++ [t]).map OB.cells)
     rw [List.map_append]
     exact ho
    obtain ⟨a', c', hv, _⟩ := ROwn.row ho2 (OB.cells_len _) (by decide)
    rw [List.length_map] at hv
    subst hv
    go_ret
    exact ⟨a', c', rfl, ho2, hbw, hk⟩
theorem offSz : (Tryz.prog.info? 31).map (·.size) = some 2 := by kernel_rfl
theorem overlapsO (w : World) (g gv : Nat) (hne : gv ≠ g) (curv cur : Array Value) (hv : w.heap[gv]? = some (.cells curv 31 (0, 0))) (hg : w.heap[g]? = some (.cells cur 31 (0, 0))) (hs : cur.size ≠ 0) (o n c lb cb : Nat) :
  (callFunc 78 #[.slice (some ⟨gv, 0, none⟩) n c, .slice (some ⟨g, o, none⟩) lb cb]).run Tryz.prog w = .ok (.value (.bool false)) w := by
 rw [run_callFunc_extern Tryz.func78 (by kernel_rfl) (by kernel_rfl) (by kernel_rfl) (e := Extern.SlicesOverlaps.overlaps #[28, 28] #[4]) (by kernel_rfl),
  Lib.run_overlaps_apart w 28 4 31 Tryz.underlying28 2 (fun w => by kernel_rfl) ⟨gv, 0, none⟩ ⟨g, o, none⟩ n c lb cb hne 31 31 curv.size cur.size (by simp [World.shape?, hv]) (by simp [World.shape?, hg]) hs (by simp [World.frozen?, hv]) (by simp [World.frozen?, hv])]
 rfl
theorem spliceO_in {α : Type} (A T : List α) (p q k : Nat) (hT : T.length = k) (hp : p ≤ q) (hq : q + k ≤ A.length) :
  ((A.take (p + k) ++ (A.take q).drop p ++ A.drop (p + k + (q - p))).take p ++ T ++ (A.take (p + k) ++ (A.take q).drop p ++ A.drop (p + k + (q - p))).drop (p + k)) = A.take p ++ T ++ (A.take q).drop p ++ A.drop (q + k) := by
 have h1 : (A.take (p + k)).length = p + k := by rw [List.length_take]; omega
 have e1 : (A.take (p + k) ++ (A.take q).drop p ++ A.drop (p + k + (q - p))).take p = A.take p := by
  rw [List.append_assoc, List.take_append_of_le_length (by omega), List.take_take, Nat.min_eq_left (by omega)]
 have e2 : (A.take (p + k) ++ (A.take q).drop p ++ A.drop (p + k + (q - p))).drop (p + k) = (A.take q).drop p ++ A.drop (p + k + (q - p)) := by
  rw [List.append_assoc, List.drop_append_of_le_length (by omega), List.drop_eq_nil_of_le (by omega), List.nil_append]
 rw [e1, e2, show p + k + (q - p) = q + k by omega]
 simp only [List.append_assoc]
theorem spliceO_take {α : Type} (A T : List α) (p q k : Nat) (hT : T.length = k) (hp : p ≤ q) (hq : q + k ≤ A.length) :
  (A.take p ++ T ++ (A.take q).drop p ++ A.drop (q + k)).take (q + k) = (A.take q).take p ++ (T ++ (A.take q).drop p) := by
 have h1 : (A.take p ++ T ++ (A.take q).drop p).length = q + k := by simp; omega
 rw [List.take_append_of_le_length (by omega), List.take_of_length_le (by omega), List.take_take, Nat.min_eq_left hp, List.append_assoc]
theorem flat_takeO (l : List OB) (i : Nat) (hi : i ≤ l.length) : ((l.take i).map OB.cells).flatten = ((l.map OB.cells).flatten).take (i * 2) ∧ ((l.drop i).map OB.cells).flatten = ((l.map OB.cells).flatten).drop (i * 2) := by
 have h1 : ((l.take i).map OB.cells).flatten.length = i * 2 := by
  rw [flatten_len (OB.cells_len _), List.length_map, List.length_take, Nat.min_eq_left hi]
 have h2 : (l.map OB.cells).flatten = ((l.take i).map OB.cells).flatten ++ ((l.drop i).map OB.cells).flatten := by
  rw [← List.flatten_append, ← List.map_append, List.take_append_drop]
 rw [h2]
 constructor
 ·
  rw [List.take_append_of_le_length (by omega)]
  exact (List.take_of_length_le (by omega)).symm
 ·
  rw [List.drop_append_of_le_length (by omega), show List.drop (i * 2) ((l.take i).map OB.cells).flatten = [] from List.drop_eq_nil_of_le (by omega)]
  rfl
set_option maxRecDepth 100000 in
set_option maxHeartbeats 1000000 in
theorem oins_room (base g c : Nat) (l : List OB) (i : Nat) (hi : i < l.length) (hl : l.length ≤ 1000000) (hc : l.length + 1 ≤ c) (hcm : c ≤ 9223372036854775807) (t : OB) (gv : Nat) (w : World) (hO : OOwn w base (.slice (some ⟨g, 0, none⟩) l.length c) l) (hne : gv ≠ g) (curv : Array Value) (hv : w.heap[gv]? = some (.cells curv 31 (0, 0))) (hT : OAt w gv 0 t) :
  Calls Tryz.prog 42 #[.slice (some ⟨g, 0, none⟩) l.length c, .int .i64 i, .slice (some ⟨gv, 0, none⟩) 1 1] w fun e w' => InsO w base (.slice (some ⟨g, 0, none⟩) l.length c) (l.take i ++ t :: l.drop i) e w' := by
 have hO2 := hO
 rcases hO.2 with ⟨h, _⟩ | ⟨g', cap, cur, hsl, hg, hcur, hx1, hx2, hsz, htk⟩
 ·
  cases h
 simp only [Value.slice.injEq, Option.some.injEq, Addr.mk.injEq, and_true] at hsl
 have hsl1 := hsl.1
 have hsl2 := hsl.2.2
 have HX2 := Lib.hid hx2
 clear hsl hx1 hx2
 subst hsl1 hsl2
 rw [List.length_map] at htk
 have hov := overlapsO w g gv hne curv cur hv hcur (by omega)
 have HOV := Lib.hid hov
 have hw1 : IntKind.i64.wrap ((i : Int) + 1) = (i : Int) + 1 := IntWalk.i64_in _ (by omega)
 have hb1 : (0 : Int) ≤ (i : Int) + 1 := by omega
 have htn : ((i : Int) + 1).toNat = i + 1 := by omega
 have hb2 : ¬ (c = i + 1) := by omega
 have hb3 : (i : Int) ≤ (l.length : Int) + 1 := by omega
 have hb4 : ¬ (c = i) := by omega
 have hb7 : i ≤ l.length := by omega
 have hb5 : ((i : Int) == (l.length : Int)) = false := beq_false_of_ne (by omega)
 have hb6 : ¬ ((c : Int) < (l.length : Int) + 1) := by omega
 have HOO := Lib.hid hO2
 have HTK := Lib.hid htk
 have HT := Lib.hid hT
 have HCUR := Lib.hid hcur
 have HSZ := Lib.hid hsz
 clear hO hO2 htk hT hcur hsz
 go_enter Tryz.func42, Tryz.ntmps42
 go_wp2_with (simp only [hov])
 have hsz3 : (l.map OB.cells).flatten.length = l.length * 2 := by rw [flatten_len (OB.cells_len l), List.length_map]
 obtain ⟨A, hA⟩ : ∃ A, cur.toList = A := ⟨_, rfl⟩
 have hAl : A.length = c * 2 := by rw [← hA, Array.length_toList]; exact HSZ.out
 have HCA : Hid (w.heap[g]? = some (.cells A.toArray 31 (0, 0))) := Lib.hid (by rw [← hA]; simpa using HCUR.out)
 have HTA : Hid (A.take (l.length * 2) = (l.map OB.cells).flatten) := Lib.hid (by rw [← hA]; exact HTK.out)
 have hcsl : ((A.take (l.length * 2)).drop (i * 2)).length = (l.length - i) * 2 := by rw [List.length_drop, List.length_take]; omega
 have HCSL := Lib.hid hcsl
 have HAL := Lib.hid hAl
 have HNE := Lib.hid hne
 have HVV := Lib.hid hv
 clear hA hsz3 hcsl hAl hov HOV HCUR HTK HSZ hne hv
 refine Tryst2.wp_region_grows [.is (.slice (some ⟨g, 0, none⟩) (l.length + 1) c), .is (.int .i64 i), .is (.int .i64 1), .is (.int .i64 ((i : Int) + 1)), .is (.slice (some ⟨g, (i + 1) * 2, none⟩) (l.length - i) (c - (i + 1))), .is (.slice (some ⟨g, 0, none⟩) (l.length + 1) c), .is (.int .i64 i), .is (.slice (some ⟨g, i * 2, none⟩) (l.length + 1 - i) (c - i))] (by kernel_rfl) (by kernel_rfl) ?obl ?fin
 case obl =>
  simp only [YA, YL, YO, YR, Op.operands, Call.operands]
  repeat' apply And.intro
  any_goals trivial
  all_goals (intro tv w' hg hold hd; (try simp at hold); obtain ⟨hcg, hfg, hsg⟩ := YG hg)
  all_goals first | (go_simp; done) | (go_simp; rw [if_neg (by omega)]; exact ⟨.refl _, rfl⟩) | (obtain ⟨⟨g, hvg, hgg, hcell⟩, _⟩ := hd; have hcell0 := hcell 0 (by decide); simp at hcell0; go_simp; done) 
 case fin =>
  intro tv w' hg hR
  simp only [YF, YL, YR] at hR
  obtain ⟨hcg, hfg, hsg⟩ := YG hg
  simp only [YP, YL, Act.put, hR]
  have hbw := Tryst2.Grow.below hg (.refl w.heap.size w)
  have hgz : g < w.heap.size := (Array.getElem?_eq_some_iff.1 HCA.out).1
  have hvz : gv < w.heap.size := (Array.getElem?_eq_some_iff.1 HVV.out).1
  have HG1 := Lib.hid ((hbw.block g hgz).trans HCA.out)
  have HV1 := Lib.hid ((hbw.block gv hvz).trans HVV.out)
  have HT1 : Hid (∀ (j : Nat) u, t.cells[j]? = some u → w'.cell? ((⟨gv, 0, none⟩ : Addr).add j) = some u) := Lib.hid (fun j u hj => by
   obtain ⟨k0, k1⟩ := HT.out
   rw [Addr.add_lit, Nat.zero_add, hbw.cell (p := ⟨gv, j, none⟩) hvz]
   match j, hj with
   | 0, hj => simp [OB.cells] at hj; subst hj; simpa using k0
   | 1, hj => simp [OB.cells] at hj; subst hj; simpa using k1
   | j + 2, hj => simp [OB.cells] at hj)
  have HS1 : Hid (∀ (j : Nat) u, ((A.take (l.length * 2)).drop (i * 2))[j]? = some u → w'.cell? ((⟨g, i * 2, none⟩ : Addr).add j) = some u) := Lib.hid (fun j u hj => by
   rw [List.getElem?_drop, List.getElem?_take] at hj
   split at hj
   ·
    rw [Addr.add_lit]
    have hA := HG1.out
    unfold World.cell?
    rw [hA]
    simpa using hj
   ·
    cases hj)
  have HB1 := Lib.hid hbw
  have hlf1 : ∀ u ∈ (A.take (l.length * 2)).drop (i * 2), u.oneCell' = true := fun u hu => by
   rw [HTA.out] at hu
   obtain ⟨x, hx, hux⟩ := List.mem_flatten.1 (List.mem_of_mem_drop hu)
   exact OB.cells_one l x hx u hux
  have HLF := Lib.hid hlf1
  clear hbw hlf1 hg hR hcg hfg hsg hgz hvz
  refine wpList_copyK rfl (.tmp 73) (.tmp 76) 28 28 rfl 31 2 Tryz.underlying28 offSz g ((i + 1) * 2) (l.length - i) (c - (i + 1)) ⟨g, i * 2, none⟩ (l.length + 1 - i) (c - i) rfl rfl A 31 HG1.out ((A.take (l.length * 2)).drop (i * 2)) (by rw [HCSL.out, show Nat.min (l.length + 1 - i) (l.length - i) = l.length - i from Nat.min_eq_right (by omega)]) HS1.out (by rw [HCSL.out, HAL.out]; omega) HLF.out ?_
  intro w2 hg2 hbel hoth hsz2
  rw [HCSL.out] at hg2
  have hR1l : (A.take ((i + 1) * 2) ++ (A.take (l.length * 2)).drop (i * 2) ++ A.drop ((i + 1) * 2 + (l.length - i) * 2)).length = c * 2 := by
   rw [List.length_append, List.length_append, HCSL.out, List.length_take, List.length_drop, HAL.out]; omega
  obtain ⟨R1, hR1⟩ : ∃ R1, A.take ((i + 1) * 2) ++ (A.take (l.length * 2)).drop (i * 2) ++ A.drop ((i + 1) * 2 + (l.length - i) * 2) = R1 := ⟨_, rfl⟩
  rw [hR1] at hg2 hR1l
  have HG2 := Lib.hid hg2
  have HR1 := Lib.hid hR1
  have HR1L := Lib.hid hR1l
  have HT2 : Hid (∀ (j : Nat) u, t.cells[j]? = some u → w2.cell? ((⟨gv, 0, none⟩ : Addr).add j) = some u) := Lib.hid (fun j u hj => by
   rw [← HT1.out j u hj, Addr.add_lit]
   exact World.cell?_of_block (w := w') (a := ⟨gv, 0 + j, none⟩) (hoth gv HNE.out))
  have HOTH := Lib.hid hoth
  have HBEL := Lib.hid hbel
  have HSZ2 := Lib.hid hsz2
  clear hg2 hR1 hR1l hoth hbel hsz2
  have H1 : Hid (∀ u ∈ t.cells, u.oneCell' = true) := Lib.hid (fun u hu => OB.cells_one [t] t.cells (by simp) u hu)
  go_upto_region 16 with fail
  go_wp2_with (refine wpList_copyK rfl (.tmp 80) (.tmp 81) 28 28 rfl 31 2 Tryz.underlying28 offSz g (i * 2) (l.length + 1 - i) (c - i) ⟨gv, 0, none⟩ 1 1 rfl rfl R1 31 HG2.out t.cells (by rw [show Nat.min 1 (l.length + 1 - i) = 1 from Nat.min_eq_left (by omega)]; rfl) HT2.out (by rw [HR1L.out]; show i * 2 + 2 ≤ _; omega) H1.out ?_; intro w3 hg3 hbel3 hoth3 hsz3)
  go_ret
  have hlen : (l.take i ++ t :: l.drop i).length = l.length + 1 := by simp; omega
  have hgz : g < w.heap.size := (Array.getElem?_eq_some_iff.1 HCA.out).1
  have hspl := spliceO_in A t.cells (i * 2) (l.length * 2) 2 rfl (by omega) (by rw [HAL.out]; omega)
  have hstk := spliceO_take A t.cells (i * 2) (l.length * 2) 2 rfl (by omega) (by rw [HAL.out]; omega)
  have hr1 := HR1.out
  rw [show (i + 1) * 2 = i * 2 + 2 by omega, show (l.length - i) * 2 = l.length * 2 - i * 2 by omega] at hr1
  rw [hr1] at hspl
  have hR2 : R1.take (i * 2) ++ t.cells ++ R1.drop (i * 2 + t.cells.length) = A.take (i * 2) ++ t.cells ++ (A.take (l.length * 2)).drop (i * 2) ++ A.drop (l.length * 2 + 2) := hspl
  rw [hR2] at hg3
  refine ⟨some ⟨g, 0, none⟩, c, ?_, ?_, ?_, ?_⟩
  ·
   rw [hlen]
   rfl
  ·
   refine ⟨flatten_len (OB.cells_len _), .inr ⟨g, c, _, ?_, hg, hg3, ?_, HX2.out, ?_, ?_⟩⟩
   ·
    rw [List.length_map]
   ·
    rw [List.length_map, hlen]; exact hc
   ·
    simp only [List.size_toArray, List.length_append, List.length_take, List.length_drop, HAL.out, show t.cells.length = 2 from rfl]; omega
   ·
    show (List.take _ _) = _
    rw [List.length_map, hlen, show (l.length + 1) * 2 = l.length * 2 + 2 by omega]
    show (A.take (i * 2) ++ t.cells ++ (A.take (l.length * 2)).drop (i * 2) ++ A.drop (l.length * 2 + 2)).take (l.length * 2 + 2) = _
    rw [hstk, HTA.out, List.map_append, List.flatten_append, List.map_cons, List.flatten_cons, (flat_takeO l i (by omega)).1, (flat_takeO l i (by omega)).2]
  ·
   exact hbel3 base w hg (HBEL.out base w hg (HB1.out.mono (by omega)))
  ·
   intro k hk ha
   have hne : k ≠ g := fun e => ha ⟨g, 0, none⟩ _ _ rfl e.symm
   exact ((hoth3 k hne).trans (HOTH.out k hne)).trans (HB1.out.block k hk)
theorem grow_runO (g n i : Nat) (hi : i < n) (hn : n ≤ 1000000) (F : List Value) (hF : F.length = n * 2) (w : World) (hc : ∀ (j : Nat) u, F[j]? = some u → w.cell? ⟨g, j, none⟩ = some u) :
  ∃ (A : List Value) (C : Nat), A.length = C * 2 ∧ n + 1 ≤ C ∧ C ≤ maxLen ∧ A.take (i * 2) = F.take (i * 2) ∧ ∀ ty, (Builtin.append_ #[28, 3] ty #[.slice (some ⟨g, 0, none⟩) i n, .int .i64 ((n : Int) + 1 - i)]).run Tryz.prog w = .ok (.slice (some ⟨w.heap.size, 0, none⟩) (n + 1) C) (w.drew.alloc (.cells A.toArray 31)) := by
 obtain ⟨ii, z, hii, hz, h2, h3, h4⟩ := offT.info
 have hk : i + (n + 1 - i) = n + 1 := by omega
 have hol : (F.take (i * 2)).length = i * ii.size := by rw [h2, List.length_take]; omega
 have hold : (Builtin.firstCells ii.size i (.slice (some ⟨g, 0, none⟩) i n)).run Tryz.prog w.drew = .ok (F.take (i * 2)).toArray w.drew :=
  run_firstCells_some (P := Tryz.prog) (w := w.drew) ii.size i ⟨g, 0, none⟩ i n (F.take (i * 2)) hol (fun j v hj => by
   rw [List.getElem?_take] at hj
   split at hj
   ·
    rw [Addr.add_lit, Nat.zero_add]
    exact hc j v hj
   ·
    cases hj)
 have hfit : Builtin.nextslicecap (i + (n + 1 - i)) n * ii.bytes ≤ 281474976710656 := by
  rw [hk]
  exact growslice_fits (by omega) (by rw [h3]; omega)
 have hr := fun ty => Lib.run_append_grow_zeros (P := Tryz.prog) w 28 3 ty 31 ii z .i64 .i64 Tryz.underlying28 Tryz.underlying3 hii hz (some ⟨g, 0, none⟩) i n (F.take (i * 2)) hold (n + 1 - i) (by omega) (by rw [h2]; decide) (by omega) (by omega) (by rw [h3]; omega) hfit
 have hcge := grownCap_ge w (i + (n + 1 - i)) n 31
 have hcle := grownCap_le_maxLen w (i + (n + 1 - i)) n 31 (by unfold maxLen; omega)
 rw [hk] at hr hcge hcle
 have hcast : ((n + 1 - i : Nat) : Int) = (n : Int) + 1 - i := by omega
 rw [hcast] at hr
 refine ⟨((F.take (i * 2)).toArray ++ Builtin.zeroCells z.cells (n + 1 - i) ++ Builtin.zeroCells z.cells (grownCap w (n + 1) n 31 - (n + 1))).toList, grownCap w (n + 1) n 31, ?_, hcge, hcle, ?_, fun ty => ?_⟩
 ·
  simp [Builtin.zeroCells, h4]
  rw [Nat.min_eq_left (by rw [hF]; omega)]
  omega
 ·
  rw [Array.toList_append, Array.toList_append, List.append_assoc, List.take_append_of_le_length (by simp; omega)]
  exact List.take_of_length_le (by rw [List.toList_toArray, List.length_take]; omega)
 ·
  rw [hr ty]
set_option maxRecDepth 100000 in
set_option maxHeartbeats 1000000 in
theorem oins_grow (base g : Nat) (l : List OB) (i : Nat) (hi : i < l.length) (hl : l.length ≤ 1000000) (t : OB) (gv : Nat) (w : World) (hO : OOwn w base (.slice (some ⟨g, 0, none⟩) l.length l.length) l) (hb : base ≤ w.heap.size) (hgv : gv < w.heap.size) (hT : OAt w gv 0 t) :
  Calls Tryz.prog 42 #[.slice (some ⟨g, 0, none⟩) l.length l.length, .int .i64 i, .slice (some ⟨gv, 0, none⟩) 1 1] w fun e w' => InsO w base (.slice (some ⟨g, 0, none⟩) l.length l.length) (l.take i ++ t :: l.drop i) e w' := by
 obtain ⟨a', c', hv, hrow, _, h9⟩ := ROwn.row hO (OB.cells_len l) (by decide)
 rw [List.length_map] at hv
 simp only [Value.slice.injEq, true_and] at hv
 have hv1 := hv.1
 clear hv
 subst hv1
 have hgz := (h9 g 0 rfl).2.1
 have hF : ((l.map OB.cells).flatten).length = l.length * 2 := by rw [flatten_len (OB.cells_len l), List.length_map]
 have hcell : ∀ (j : Nat) u, ((l.map OB.cells).flatten)[j]? = some u → w.cell? ⟨g, j, none⟩ = some u := fun j u hj => by
  have h6 := hrow.cells (OB.cells_len l) (by decide) j u hj
  rwa [Addr.add_lit, Nat.zero_add] at h6
 obtain ⟨A, C, hA, hC1, hC2, hA3, hrun⟩ := grow_runO g l.length i hi hl _ hF w hcell
 have HRUN := Lib.hid hrun
 have hw1 : IntKind.i64.wrap ((i : Int) + 1) = (i : Int) + 1 := IntWalk.i64_in _ (by omega)
 have hw2 : IntKind.i64.wrap ((l.length : Int) + 1 - i) = (l.length : Int) + 1 - i := IntWalk.i64_in _ (by omega)
 have hb1 : (0 : Int) ≤ (i : Int) + 1 := by omega
 have htn : ((i : Int) + 1).toNat = i + 1 := by omega
 have hb4 : ¬ (C = i) := by omega
 have hb2 : ¬ (C = i + 1) := by omega
 have hb7 : i ≤ l.length := by omega
 have hb8 : ¬ (l.length = i) := by omega
 have hb5 : ((i : Int) == (l.length : Int)) = false := beq_false_of_ne (by omega)
 have HCELL := Lib.hid hcell
 have HF := Lib.hid hF
 have HA := Lib.hid hA
 have HA3 := Lib.hid hA3
 have HT := Lib.hid hT
 have HO := Lib.hid hO
 have HBA := Lib.hid (balloc (.cells A.toArray 31) (bdrew (.refl w.heap.size w)))
 have HGA : Hid ((w.drew.alloc (.cells A.toArray 31)).heap[w.heap.size]? = some (.cells A.toArray 31 (0, 0))) := Lib.hid (by
  show (w.heap.push _)[w.heap.size]? = _
  simp)
 have HTG : Hid (∀ (j : Nat) u, t.cells[j]? = some u → (w.drew.alloc (.cells A.toArray 31)).cell? ((⟨gv, 0, none⟩ : Addr).add j) = some u) := Lib.hid (fun j u hj => by
  obtain ⟨k0, k1⟩ := hT
  rw [Addr.add_lit, Nat.zero_add, HBA.out.cell (p := ⟨gv, j, none⟩) hgv]
  match j, hj with
  | 0, hj => simp [OB.cells] at hj; subst hj; simpa using k0
  | 1, hj => simp [OB.cells] at hj; subst hj; simpa using k1
  | j + 2, hj => simp [OB.cells] at hj)
 have H1 : Hid (∀ u ∈ t.cells, u.oneCell' = true) := Lib.hid (fun u hu => OB.cells_one [t] t.cells (by simp) u hu)
 have HGZ := Lib.hid hgz
 clear hrow h9 hF hcell hA hA3 hrun hT hO hgz hgv
 go_enter Tryz.func42, Tryz.ntmps42
 go_upto_region 9 with fail
 go_wp2_with (first | (refine Lib.wpList_append_run _ rfl (.tmp 34) (.tmp 39) 28 3 rfl (.slice (some ⟨g, 0, none⟩) i l.length) (.int .i64 ((l.length : Int) + 1 - i)) rfl rfl _ _ (HRUN.out _) ?_) | (refine wpList_copyK rfl (.tmp 43) (.tmp 44) 28 28 rfl 31 2 Tryz.underlying28 offSz w.heap.size (i * 2) (l.length + 1 - i) (C - i) ⟨gv, 0, none⟩ 1 1 rfl rfl A 31 HGA.out t.cells (by rw [show Nat.min 1 (l.length + 1 - i) = 1 from Nat.min_eq_left (by omega)]; rfl) HTG.out (by rw [HA.out]; show i * 2 + 2 ≤ _; omega) H1.out ?_; intro w2 hg2 hbel hoth hsz2; have HG2 := Lib.hid hg2; have HBEL := Lib.hid hbel; have HOTH := Lib.hid hoth; clear hg2 hbel hoth hsz2))
 have HBW2 := Lib.hid (HBEL.out w.heap.size w (Nat.le_refl _) HBA.out)
 refine Tryst2.wp_region_grows [.is (.slice (some ⟨w.heap.size, 0, none⟩) (l.length + 1) C), .is (.int .i64 i), .is (.int .i64 1), .is (.int .i64 ((i : Int) + 1)), .is (.slice (some ⟨w.heap.size, (i + 1) * 2, none⟩) (l.length - i) (C - (i + 1))), .is (.slice (some ⟨g, 0, none⟩) l.length l.length), .is (.int .i64 i), .is (.slice (some ⟨g, i * 2, none⟩) (l.length - i) (l.length - i))] (by kernel_rfl) (by kernel_rfl) ?obl ?fin
 case obl =>
  simp only [YA, YL, YO, YR, Op.operands, Call.operands]
  repeat' apply And.intro
  any_goals trivial
  all_goals (intro tv w' hg hold hd; (try simp at hold); obtain ⟨hcg, hfg, hsg⟩ := YG hg)
  all_goals first | (go_simp; done) | (go_simp; rw [if_neg (by omega)]; exact ⟨.refl _, rfl⟩) | (obtain ⟨⟨g, hvg, hgg, hcell⟩, _⟩ := hd; have hcell0 := hcell 0 (by decide); simp at hcell0; go_simp; done) 
 case fin =>
  intro tv w' hg hR
  simp only [YF, YL, YR] at hR
  obtain ⟨hcg, hfg, hsg⟩ := YG hg
  simp only [YP, YL, Act.put, hR]
  have hbw := Tryst2.Grow.below hg (.refl w2.heap.size w2)
  have hGz : w.heap.size < w2.heap.size := (Array.getElem?_eq_some_iff.1 HG2.out).1
  have hRl : (A.take (i * 2) ++ t.cells ++ A.drop (i * 2 + t.cells.length)).length = C * 2 := by
   rw [List.length_append, List.length_append, List.length_take, List.length_drop, HA.out, show t.cells.length = 2 from rfl]; omega
  have HG3 := Lib.hid ((hbw.block w.heap.size hGz).trans HG2.out)
  obtain ⟨R1, hR1⟩ : ∃ R1, A.take (i * 2) ++ t.cells ++ A.drop (i * 2 + t.cells.length) = R1 := ⟨_, rfl⟩
  rw [hR1] at HG3 hRl
  have HR1 := Lib.hid hR1
  have HRL := Lib.hid hRl
  obtain ⟨F, hF⟩ : ∃ F, (l.map OB.cells).flatten = F := ⟨_, rfl⟩
  have HFL := HF
  rw [hF] at HFL
  have HS : Hid (∀ (j : Nat) u, (F.drop (i * 2))[j]? = some u → w'.cell? ((⟨g, i * 2, none⟩ : Addr).add j) = some u) := Lib.hid (fun j u hj => by
   rw [List.getElem?_drop] at hj
   rw [Addr.add_lit, hbw.cell (p := ⟨g, i * 2 + j, none⟩) (Nat.lt_trans HGZ.out hGz), HBW2.out.cell (p := ⟨g, i * 2 + j, none⟩) HGZ.out]
   exact HCELL.out _ _ (by rw [hF]; exact hj))
  have HLF : Hid (∀ u ∈ F.drop (i * 2), u.oneCell' = true) := Lib.hid (fun u hu => by
   rw [← hF] at hu
   obtain ⟨x, hx, hux⟩ := List.mem_flatten.1 (List.mem_of_mem_drop hu)
   exact OB.cells_one l x hx u hux)
  have hdl : (F.drop (i * 2)).length = (l.length - i) * 2 := by rw [List.length_drop, HFL.out]; omega
  have HDL := Lib.hid hdl
  have HFF := Lib.hid hF
  have HB1 := Lib.hid (bstep hbw HBW2.out)
  clear hbw hg hR hcg hfg hsg hGz hR1 hRl hF hdl
  refine wpList_copyK rfl (.tmp 50) (.tmp 53) 28 28 rfl 31 2 Tryz.underlying28 offSz w.heap.size ((i + 1) * 2) (l.length - i) (C - (i + 1)) ⟨g, i * 2, none⟩ (l.length - i) (l.length - i) rfl rfl R1 31 HG3.out (F.drop (i * 2)) (by rw [HDL.out, show Nat.min (l.length - i) (l.length - i) = l.length - i from Nat.min_self _]) HS.out (by rw [HDL.out, HRL.out]; omega) HLF.out ?_
  intro w3 hg3 hbel3 hoth3 hsz3
  have HG4 := Lib.hid hg3
  have HBEL3 := Lib.hid hbel3
  have HOTH3 := Lib.hid hoth3
  clear hg3 hbel3 hoth3 hsz3
  go_wp2_with fail
  go_ret
  have hlen : (l.take i ++ t :: l.drop i).length = l.length + 1 := by simp; omega
  have h3 : t.cells.length = 2 := rfl
  have hat : (A.take (i * 2)).length = i * 2 := by rw [List.length_take, HA.out]; omega
  have hr1 : R1.take ((i + 1) * 2) = A.take (i * 2) ++ t.cells := by
   rw [← HR1.out, List.take_append_of_le_length (by rw [List.length_append, hat, h3]; omega)]
   exact List.take_of_length_le (by rw [List.length_append, hat, h3]; omega)
  have hg4 := HG4.out
  rw [hr1] at hg4
  refine ⟨some ⟨w.heap.size, 0, none⟩, C, ?_, ?_, ?_, ?_⟩
  ·
   rw [hlen]
   rfl
  ·
   refine ⟨flatten_len (OB.cells_len _), .inr ⟨w.heap.size, C, _, ?_, hb, hg4, ?_, hC2, ?_, ?_⟩⟩
   ·
    rw [List.length_map]
   ·
    rw [List.length_map, hlen]; exact hC1
   ·
    simp only [List.size_toArray, List.length_append, hat, h3, HDL.out, List.length_drop (l := R1), HRL.out]; omega
   ·
    show (List.take _ _) = _
    rw [List.length_map, hlen]
    show (A.take (i * 2) ++ t.cells ++ F.drop (i * 2) ++ _).take ((l.length + 1) * 2) = _
    rw [List.take_append_of_le_length (by rw [List.length_append, List.length_append, hat, h3, HDL.out]; omega), List.take_of_length_le (by rw [List.length_append, List.length_append, hat, h3, HDL.out]; omega), HA3.out, List.map_append, List.flatten_append, List.map_cons, List.flatten_cons, (flat_takeO l i (by omega)).1, (flat_takeO l i (by omega)).2, HFF.out, List.append_assoc]
  ·
   exact HBEL3.out base w hb (HB1.out.mono hb)
  ·
   intro k hk _
   exact (HOTH3.out k (by omega)).trans (HB1.out.block k hk)
/-- slices.Insert of one topic, wherever there is room or not -/
theorem oins_c (base : Nat) (a : Option Addr) (c : Nat) (l : List OB) (i : Nat) (hi : i ≤ l.length) (hl : l.length ≤ 1000000) (hcm : c ≤ 9223372036854775807) (t : OB) (gv : Nat) (w : World) (hO : OOwn w base (.slice a l.length c) l) (hb : base ≤ w.heap.size) (hne : i < l.length → ∀ A, a = some A → gv ≠ A.block) (curv : Array Value) (hv : w.heap[gv]? = some (.cells curv 31 (0, 0))) (hT : OAt w gv 0 t) :
  Calls Tryz.prog 42 #[.slice a l.length c, .int .i64 i, .slice (some ⟨gv, 0, none⟩) 1 1] w fun e w' => InsO w base (.slice a l.length c) (l.take i ++ t :: l.drop i) e w' := by
 by_cases h : i = l.length
 ·
  subst h
  have e : l.take l.length ++ t :: l.drop l.length = l ++ [t] := by simp
  rw [e]
  exact oins_end base a c l hl t gv w hO hb hT
 ·
  have hlt : i < l.length := by omega
  obtain ⟨g, c', hv', _⟩ := OOwn.block hO (by omega)
  simp only [Value.slice.injEq, true_and] at hv'
  obtain ⟨rfl, rfl⟩ := hv'
  by_cases hc : c = l.length
  ·
   subst hc
   exact oins_grow base g l i hlt hl t gv w hO hb (Array.getElem?_eq_some_iff.1 hv).1 hT
  ·
   obtain ⟨a', c', hv2, _, hs, _⟩ := ROwn.row hO (OB.cells_len l) (by decide)
   rw [List.length_map] at hv2 hs
   simp only [Value.slice.injEq, true_and] at hv2
   have hc2 := hs.cap
   rw [← hv2.2] at hc2
   exact oins_room base g c l i hlt hl (by omega) hcm t gv w hO (hne hlt ⟨g, 0, none⟩ rfl) curv hv hT
/-- the first place at which p holds, or -1 -/
def idxG {α : Type} (p : α → Bool) (l : List α) : Int := match l.findIdx? p with | some i => (i : Int) | none => -1
theorem idxG_yes {α : Type} {p : α → Bool} {l : List α} {k : Nat} (hlt : k < l.length) (h : ∀ (j : Nat) (h : j < l.length), j < k → p l[j] = false) (hp : p l[k] = true) : idxG p l = k := by
 unfold idxG
 rw [List.findIdx?_eq_some_iff_getElem.2 ⟨hlt, hp, fun j hj => by rw [h j (by omega) hj]; simp⟩]
theorem idxG_next {α : Type} {p : α → Bool} {l : List α} {k : Nat} (hlt : k < l.length) (h : ∀ (j : Nat) (h : j < l.length), j < k → p l[j] = false) (hp : p l[k] = false) : ∀ (j : Nat) (h : j < l.length), j < k + 1 → p l[j] = false := by
 intro j hj hk
 by_cases e : j = k
 ·
  subst e; exact hp
 ·
  exact h j hj (by omega)
theorem idxG_no {α : Type} {p : α → Bool} {l : List α} {k : Nat} (hk : l.length ≤ k) (h : ∀ (j : Nat) (h : j < l.length), j < k → p l[j] = false) : idxG p l = -1 := by
 unfold idxG
 rw [List.findIdx?_eq_none_iff.2 fun x hx => by
  obtain ⟨j, hj, rfl⟩ := List.getElem_of_mem hx
  exact h j hj (by omega)]
def IdxRelG {α : Type} (p : α → Bool) (l : List α) (w : World) (i : Value) (wr : World) : Prop := ∃ k : Nat, k ≤ l.length ∧ i = .int .i64 k ∧ Hid (∀ (j : Nat) (h : j < l.length), j < k → p l[j] = false) ∧ Hid (Below w.heap.size w wr) ∧ w.heap.size ≤ wr.heap.size
def AllR {α : Type} (R : Bool) (p : α → Bool) (l : List α) (w : World) (i : Value) (wr : World) : Prop := ∃ k : Nat, k ≤ l.length ∧ i = .int .i64 k ∧ Hid (R = (l.drop k).all p) ∧ Hid (Below w.heap.size w wr) ∧ w.heap.size ≤ wr.heap.size
theorem allR_step {α : Type} {R : Bool} {p : α → Bool} {l : List α} {k : Nat} (hk : k < l.length) (h : R = (l.drop k).all p) : R = (p l[k] && (l.drop (k + 1)).all p) := by
 rw [h, List.drop_eq_getElem_cons hk]; rfl
theorem allR_end {α : Type} {R : Bool} {p : α → Bool} {l : List α} {k : Nat} (hk : l.length ≤ k) (h : R = (l.drop k).all p) : R = true := by
 rw [h, List.drop_eq_nil_of_le hk]; rfl
end Go.Proofs.YtmlbdblnmbmnpaaGreatDoor
namespace Go.Proofs.YtmlbdblnmbmnpaaGreatDoor
open Go.RowKit Tryst
set_option maxHeartbeats 1000000
set_option maxRecDepth 20000
theorem omay_c (t : OB) (hs : t.topic.size ≤ 1000000000) (w : World) (hM : MaxW w) : Calls Tryz.prog 39 #[.agg #[.string t.topic, .int .i64 t.next]] w fun e w' => e = .returned (.bool (oMay t)) ∧ Below w.heap.size w w' := by
 have HT := Lib.hid (fun W (hb : Below w.heap.size w W) => topic_c t.topic hs W (hM.grow hb))
 obtain ⟨tp, nx⟩ := t
 obtain ⟨R, hR⟩ : ∃ R, oMay ⟨tp, nx⟩ = R := ⟨_, rfl⟩
 rw [hR]
 unfold oMay at hR
 simp only at hR HT
 have HR := Lib.hid hR
 have HB := Lib.hid (balloc (.cells #[.string tp, .int .i64 nx] 31) (.refl w.heap.size w))
 obtain ⟨tb, htb⟩ : ∃ tb, topicB tp.data.toList = tb := ⟨_, rfl⟩
 rw [htb] at HT HR
 clear hR htb hM
 have hc1 : (w.alloc (.cells #[.string tp, .int .i64 nx] 31)).cell? ⟨w.heap.size, 1, none⟩ = some (.int .i64 nx) := by simp [go_sem]
 have HC1 := Lib.hid hc1
 clear hc1
 go_enter Tryz.func39, Tryz.ntmps39
 go_wp2_with fail
 refine (HT.out _ HB.out).mono ?_
 rintro e w1 ⟨rfl, hb1⟩
 have c1 := (hb1.cell (p := ⟨w.heap.size, 1, none⟩) (by simp)).trans HC1.out
 have HB1 := Lib.hid (bstep hb1 HB.out)
 clear hb1
 cases tb with
 | false =>
  have HN := Lib.hid (show R = false by rw [← HR.out]; rfl)
  go_wp2_with fail
  go_ret
  exact ⟨ret_bool HN.out.symm, HB1.out⟩
 | true =>
  by_cases hn : 0 ≤ nx
  ·
   have HN := Lib.hid (show R = true by rw [← HR.out]; simp [hn])
   go_wp2_with fail
   go_ret
   exact ⟨ret_bool HN.out.symm, HB1.out⟩
  ·
   have HN := Lib.hid (show R = decide (0 ≤ nx) by rw [← HR.out, Bool.true_and])
   go_wp2_with fail
   go_ret
   exact ⟨ret_bool HN.out.symm, HB1.out⟩
theorem ocheck1_c (t : OB) (hs : t.topic.size ≤ 1000000000) (w : World) (hM : MaxW w) : Calls Tryz.prog 47 #[.agg #[.string t.topic, .int .i64 t.next]] w fun e w' => e = .returned (.bool (oMay t)) ∧ Below w.heap.size w w' := by
 have HT := Lib.hid (fun W (hb : Below w.heap.size w W) => omay_c t hs W (hM.grow hb))
 have HB := Lib.hid (balloc (.cells #[.string t.topic, .int .i64 t.next] 31) (.refl w.heap.size w))
 generalize oMay t = R at HT ⊢
 clear hM
 go_enter Tryz.func47, Tryz.ntmps47
 go_wp2_with fail
 refine (HT.out _ HB.out).mono ?_
 rintro e w1 ⟨rfl, hb1⟩
 go_wp2_with fail
 go_ret
 exact ⟨rfl, bstep hb1 HB.out⟩
theorem allO_c (a : Option Addr) (c : Nat) (l : List OB) (hl : l.length ≤ 1000000) (hs : ∀ x ∈ l, x.topic.size ≤ 1000000000) (w : World) (hM : MaxW w) (hO : Offs w a l) :
  Calls Tryz.prog 46 #[.slice a l.length c, .func (.func 47) #[] #[]] w fun e w' => e = .returned (.bool (l.all oMay)) ∧ Below w.heap.size w w' := by
 obtain ⟨R, hR⟩ : ∃ R, (l.all oMay) = R := ⟨_, rfl⟩
 rw [hR]
 have HR : Hid (R = (l.drop 0).all oMay) := Lib.hid (by rw [← hR]; rfl)
 have HF := Lib.hid (fun W (hb : Below w.heap.size w W) => OfR.mk (Row.grow hO hb))
 have HC := Lib.hid (fun (k : Nat) (hk : k < l.length) W (hb : Below w.heap.size w W) => ocheck1_c l[k] (hs _ (List.getElem_mem hk)) W (hM.grow hb))
 clear hO hM hR hs
 go_enter Tryz.func46, Tryz.ntmps46
 go_wp2_with fail
 go_loopw [9] (fun i wr => AllR R (oMay) l w i wr) (fun i _ => l.length - (intOf i).toNat)
 case atStart => exact ⟨0, by omega, rfl, HR.out, .refl _ _, by omega⟩
 case round =>
  obtain ⟨k, hk, rfl, HP, HW, hz⟩ := hrel
  obtain ⟨wo, rfl⟩ : ∃ wo, wo = wr := ⟨_, rfl⟩
  by_cases hlt : k < l.length
  ·
   have hst : R = ((oMay l[k]) && (l.drop (k + 1)).all (oMay)) := allR_step hlt HP.out
   obtain ⟨b, o, ha, hb⟩ := (HF.out wo HW.out).head hlt
   subst ha
   have HCC := Lib.hid (HC.out k hlt)
   obtain ⟨pp, hpp⟩ : ∃ pp, (oMay l[k]) = pp := ⟨_, rfl⟩
   rw [hpp] at hst
   have HPP := Lib.hid hpp
   have HST := Lib.hid hst
   clear hpp hst HP
   obtain ⟨_, f0, f1⟩ := (HF.out wo HW.out).r.at hlt
   have HBX := Lib.hid (balloc (.cells #[.string l[k].topic, .int .i64 l[k].next] 31) HW.out)
   go_wp2_with fail
   refine (HCC.out _ HBX.out).mono ?_
   rintro e w2 ⟨rfl, hb2⟩
   have HB2 := Lib.hid (bstep hb2 HBX.out)
   clear hb2 HCC HBX
   rw [show (oMay l[k]) = pp from HPP.out]
   cases pp with
   | true =>
    have HN : Hid (R = (l.drop (k + 1)).all (oMay)) := Lib.hid (by have := HST.out; rwa [Bool.true_and] at this)
    go_wp2_with fail
    go_roundw
    case rel => exact ⟨k + 1, by omega, by go_num, HN, HB2.out, HB2.out.size⟩
    case measure => simp [intOf] <;> omega
   | false =>
    have HN : Hid (R = false) := Lib.hid (by have := HST.out; rwa [Bool.false_and] at this)
    go_wp2_with fail
    go_ret
    exact ⟨ret_bool HN.out.symm, HB2.out⟩
  ·
   have HN := Lib.hid (allR_end (by omega : l.length ≤ k) HP.out)
   go_wp2_with fail
   go_ret
   exact ⟨ret_bool HN.out.symm, HW.out⟩
theorem place1_c (t : OB) (n : ByteArray) (A : Addr) (w : World) (hc : w.cell? A = some (.string n)) (hb : A.block < w.heap.size) : Calls Tryz.prog 77 #[.agg #[.string t.topic, .int .i64 t.next], .pointer (some A)] w fun e w' => e = .returned (.bool (t.topic.toList == n.toList)) ∧ Below w.heap.size w w' := by
 obtain ⟨b, o, x⟩ := A
 go_enter Tryz.func77, Tryz.ntmps77
 go_wp2_with fail
 go_ret
 exact ⟨rfl, balloc _ (.refl _ _)⟩
theorem oindex_c (n : ByteArray) (A : Addr) (a : Option Addr) (c : Nat) (l : List OB) (hl : l.length ≤ 1000000) (w : World) (hO : Offs w a l) (hA : w.cell? A = some (.string n)) (hAb : A.block < w.heap.size) :
  Calls Tryz.prog 76 #[.slice a l.length c, .func (.func 77) #[] #[.pointer (some A)]] w fun e w' => e = .returned (.int .i64 (idxG (fun x : OB => x.topic.toList == n.toList) l)) ∧ Below w.heap.size w w' := by
 have HF := Lib.hid (fun W (hb : Below w.heap.size w W) => OfR.mk (Row.grow hO hb))
 have HC := Lib.hid (fun (k : Nat) (hk : k < l.length) W (hb : Below w.heap.size w W) => place1_c l[k] n A W ((hb.cell hAb).trans hA) (Nat.lt_of_lt_of_le hAb hb.size))
 clear hO hA
 go_enter Tryz.func76, Tryz.ntmps76
 go_wp2_with fail
 go_loopw [8] (fun i wr => IdxRelG (fun x : OB => x.topic.toList == n.toList) l w i wr) (fun i _ => l.length - (intOf i).toNat)
 case atStart => exact ⟨0, by omega, rfl, fun _ _ h => by omega, .refl _ _, by omega⟩
 case round =>
  obtain ⟨k, hk, rfl, HR, HW, hz⟩ := hrel
  obtain ⟨wo, rfl⟩ : ∃ wo, wo = wr := ⟨_, rfl⟩
  by_cases hlt : k < l.length
  ·
   obtain ⟨b, o, ha, hb⟩ := (HF.out wo HW.out).head hlt
   subst ha
   have HCC := Lib.hid (HC.out k hlt)
   obtain ⟨pp, hpp⟩ : ∃ pp, (l[k].topic.toList == n.toList) = pp := ⟨_, rfl⟩
   have HPP := Lib.hid hpp
   clear hpp
   obtain ⟨_, f0, f1⟩ := (HF.out wo HW.out).r.at hlt
   go_wp2_with fail
   refine (HCC.out _ HW.out).mono ?_
   rintro e w2 ⟨rfl, hb2⟩
   have HB2 := Lib.hid (bstep hb2 HW.out)
   clear hb2 HCC
   rw [show (l[k].topic.toList == n.toList) = pp from HPP.out]
   cases pp with
   | true =>
    have HI := Lib.hid (idxG_yes (p := fun x : OB => x.topic.toList == n.toList) hlt HR.out HPP.out)
    clear HR
    go_wp2_with fail
    go_ret
    exact ⟨ret_int HI.out.symm, HB2.out⟩
   | false =>
    have HI := Lib.hid (idxG_next (p := fun x : OB => x.topic.toList == n.toList) hlt HR.out HPP.out)
    clear HR
    go_wp2_with fail
    go_roundw
    case rel => exact ⟨k + 1, by omega, by go_num, HI.out, HB2.out, HB2.out.size⟩
    case measure => simp [intOf] <;> omega
  ·
   have HI := Lib.hid (idxG_no (p := fun x : OB => x.topic.toList == n.toList) (by omega : l.length ≤ k) HR.out)
   clear HR
   go_wp2_with fail
   go_ret
   exact ⟨ret_int HI.out.symm, HW.out⟩
theorem idxG_find (l : List OB) (n : ByteArray) : idxG (fun x : OB => x.topic.toList == n.toList) l = match findO l n with | some i => (i : Int) | none => -1 := by
 unfold idxG findO
 have e : isO n = fun t : OB => t.topic.toList == n.toList := by
  funext t
  show decide (t.topic.data.toList = n.data.toList) = _
  by_cases h : t.topic.data.toList = n.data.toList
  ·
   rw [strEq h, decide_eq_true h]
  ·
   rw [strNe h, decide_eq_false h]
 rw [e]
 first | done | (cases List.findIdx? (fun t : OB => t.topic.toList == n.toList) l <;> rfl)
end Go.Proofs.YtmlbdblnmbmnpaaGreatDoor
namespace Tryst
open Go Go.Lib
/-- rising? -/
def risO : List OB → Bool
 | a :: b :: r => lessB a.topic b.topic && risO (b :: r)
 | _ => true
theorem okO_rise : ∀ (r : List OB) (t : OB), okO (some t.topic) r = (r.all oMay && risO (t :: r))
 | [], t => rfl
 | x :: s, t => by
  have e1 : okO (some t.topic) (x :: s) = (oMay x && (lessB t.topic x.topic && okO (some x.topic) s)) := rfl
  have e2 : risO (t :: x :: s) = (lessB t.topic x.topic && risO (x :: s)) := rfl
  rw [e1, e2, okO_rise s x, List.all_cons]
  cases oMay x <;> cases lessB t.topic x.topic <;> cases s.all oMay <;> simp
theorem okO_split (l : List OB) : okO none l = (l.all oMay && risO l) := by
 cases l with
 | nil => rfl
 | cons t r =>
  have e1 : okO none (t :: r) = (oMay t && okO (some t.topic) r) := rfl
  rw [e1, okO_rise, List.all_cons, Bool.and_assoc]
theorem risO_step {l : List OB} {k : Nat} (h : k + 1 < l.length) : risO (l.drop k) = (lessB (l[k]'(by omega)).topic l[k + 1].topic && risO (l.drop (k + 1))) := by
 rw [List.drop_eq_getElem_cons (by omega : k < l.length), List.drop_eq_getElem_cons h]
 rfl
theorem risO_end {l : List OB} {k : Nat} (h : l.length ≤ k + 1) : risO (l.drop k) = true := by
 by_cases h2 : k < l.length
 ·
  rw [List.drop_eq_getElem_cons h2, List.drop_eq_nil_of_le (by omega)]
  rfl
 ·
  rw [List.drop_eq_nil_of_le (by omega)]
  rfl
end Tryst
namespace Go.Proofs.YtmlbdblnmbmnpaaGreatDoor
open Go.RowKit Tryst
set_option maxHeartbeats 2000000
set_option maxRecDepth 20000
/-- of a check: 0, or 1 -/
def errO (b : Bool) : Int := if b = true then 0 else 1
def OChkRel (w : World) (l : List OB) (R : Bool) (i : Value) (wr : World) : Prop := ∃ m : Nat, i = .int .i64 ((m : Int) + 1) ∧ m ≤ l.length ∧ Hid (R = risO (l.drop m)) ∧ Hid (Below w.heap.size w wr)
theorem ocheck_c (a : Option Addr) (c : Nat) (l : List OB) (hl : l.length ≤ 1000000) (hs : ∀ x ∈ l, x.topic.size ≤ 1000000000) (w : World) (hM : MaxW w) (hO : Offs w a l) :
  Calls Tryz.prog 20 #[.slice a l.length c] w fun e w' => e = .returned (.int .i64 (errO (checkO l))) ∧ Below w.heap.size w w' := by
 have CA := Lib.hid (allO_c a c l hl hs w hM hO)
 have HF := Lib.hid (fun W (hb : Below w.heap.size w W) => OfR.mk (Row.grow hO hb))
 obtain ⟨R, hR⟩ : ∃ R, checkO l = R := ⟨_, rfl⟩
 rw [hR]
 unfold checkO at hR
 rw [okO_split] at hR
 obtain ⟨ab, hab⟩ : ∃ b, l.all oMay = b := ⟨_, rfl⟩
 rw [hab] at hR CA
 have HR := Lib.hid hR
 clear hM hO hs hR hab
 by_cases h20 : (20 : Int) < l.length
 ·
  have HN := Lib.hid (show R = false by rw [← HR.out, decide_eq_false (by omega)]; rfl)
  go_enter Tryz.func20, Tryz.ntmps20
  go_wp2_with fail
  go_ret
  exact ⟨ret_int (by rw [HN.out]; rfl), .refl _ _⟩
 ·
  go_enter Tryz.func20, Tryz.ntmps20
  go_wp2_with fail
  refine CA.out.mono ?_
  rintro e w1 ⟨rfl, hb1⟩
  have HB1 := Lib.hid hb1
  clear hb1 CA
  cases ab with
  | false =>
   have HN := Lib.hid (show R = false by rw [← HR.out, Bool.false_and, Bool.and_false])
   go_wp2_with fail
   go_ret
   exact ⟨ret_int (by rw [HN.out]; rfl), HB1.out⟩
  | true =>
   have HR2 : Hid (R = risO (l.drop 0)) := Lib.hid (by rw [← HR.out, decide_eq_true (by omega)]; rfl)
   clear HR
   go_wp2_with fail
   go_loopw [3] (fun i wr => OChkRel w l R i wr) (fun i _ => l.length + 1 - (intOf i).toNat)
   case atStart => exact ⟨0, by go_num, by omega, HR2, HB1⟩
   case round =>
    obtain ⟨m, rfl, hm, HP, HW⟩ := hrel
    obtain ⟨wo, rfl⟩ : ∃ wo, wo = wr := ⟨_, rfl⟩
    clear HR2 HB1
    by_cases hlt : m + 1 < l.length
    ·
     have y1 : (m : Int) + 1 < (l.length : Int) := by omega
     have y2 : ((m : Int) + 1).toNat = m + 1 := by omega
     have y3 : (0 : Int) ≤ (m : Int) + 1 := by omega
     have hlm : m < l.length := by omega
     have y4 : (m : Int) < (l.length : Int) := by omega
     have y5 : (0 : Int) ≤ (m : Int) := by omega
     have hst := risO_step hlt
     rw [← HP.out] at hst
     obtain ⟨b, o, ha, hb⟩ := (HF.out wo HW.out).head hlt
     subst ha
     obtain ⟨_, f0, f1⟩ := (HF.out wo HW.out).r.at hlt
     obtain ⟨_, g0, g1⟩ := (HF.out wo HW.out).r.at (show m < l.length by omega)
     have HGE := geB l[m].topic l[m + 1].topic
     have HST := Lib.hid hst
     clear hst HP f1 g1
     generalize lessB l[m].topic l[m + 1].topic = lb at HST HGE
     go_upto_region 6 with fail
     cases lb with
     | false =>
      have HN : Hid (R = false) := Lib.hid (HST.out.trans (Bool.false_and _))
      have hge : (!Op.bytesLess l[m].topic.toList l[m + 1].topic.toList) = true := HGE
      clear HGE HST
      refine Tryst2.wp_region_grows [.is (.slice (some ⟨b, o, none⟩) l.length c), .is (.int .i64 ((m : Int) + 1)), .is (.int .i64 (m : Int)), .is (.pointer (some ⟨b, o + m * 2, none⟩)), .is (.pointer (some ⟨b, o + m * 2, none⟩)), .is (.string l[m].topic), .is (.slice (some ⟨b, o, none⟩) l.length c), .is (.int .i64 ((m : Int) + 1)), .is (.pointer (some ⟨b, o + (m + 1) * 2, none⟩)), .is (.pointer (some ⟨b, o + (m + 1) * 2, none⟩)), .is (.string l[m + 1].topic), .is (.bool true)] (by kernel_rfl) (by kernel_rfl) ?obl ?fin
      case obl =>
       simp only [YA, YL, YO, YR, Op.operands, Call.operands]
       repeat' apply And.intro
       any_goals trivial
       all_goals (intro tv w' hg hold hd; (try simp at hold); obtain ⟨hcg, hfg, hsg⟩ := YG hg)
       all_goals first | (go_simp; done) | (go_simp; rw [if_neg (by omega)]; exact ⟨.refl _, rfl⟩) | (obtain ⟨⟨g, hvg, hgg, hcell⟩, _⟩ := hd; have hcell0 := hcell 0 (by decide); simp at hcell0; go_simp; done) | (go_simp; exact IntWalk.i64_in _ (by omega))
      case fin =>
       intro tv w' hg hR
       simp only [YF, YL, YR] at hR
       obtain ⟨hcg, hfg, hsg⟩ := YG hg
       simp only [YP, YL, Act.put, hR]
       have HB9 := Lib.hid (bstep (Tryst2.Grow.below hg (.refl _ _)) HW.out)
       clear hg hR hcg hfg hsg
       go_wp2_with fail
       go_ret
       exact ⟨ret_int (by rw [HN.out]; rfl), HB9.out⟩
     | true =>
      have HN : Hid (R = risO (l.drop (m + 1))) := Lib.hid (HST.out.trans (Bool.true_and _))
      have hge : (!Op.bytesLess l[m].topic.toList l[m + 1].topic.toList) = false := HGE
      clear HGE HST
      refine Tryst2.wp_region_grows [.is (.slice (some ⟨b, o, none⟩) l.length c), .is (.int .i64 ((m : Int) + 1)), .is (.int .i64 (m : Int)), .is (.pointer (some ⟨b, o + m * 2, none⟩)), .is (.pointer (some ⟨b, o + m * 2, none⟩)), .is (.string l[m].topic), .is (.slice (some ⟨b, o, none⟩) l.length c), .is (.int .i64 ((m : Int) + 1)), .is (.pointer (some ⟨b, o + (m + 1) * 2, none⟩)), .is (.pointer (some ⟨b, o + (m + 1) * 2, none⟩)), .is (.string l[m + 1].topic), .is (.bool false)] (by kernel_rfl) (by kernel_rfl) ?obl ?fin
      case obl =>
       simp only [YA, YL, YO, YR, Op.operands, Call.operands]
       repeat' apply And.intro
       any_goals trivial
       all_goals (intro tv w' hg hold hd; (try simp at hold); obtain ⟨hcg, hfg, hsg⟩ := YG hg)
       all_goals first | (go_simp; done) | (go_simp; rw [if_neg (by omega)]; exact ⟨.refl _, rfl⟩) | (obtain ⟨⟨g, hvg, hgg, hcell⟩, _⟩ := hd; have hcell0 := hcell 0 (by decide); simp at hcell0; go_simp; done) | (go_simp; exact IntWalk.i64_in _ (by omega))
      case fin =>
       intro tv w' hg hR
       simp only [YF, YL, YR] at hR
       obtain ⟨hcg, hfg, hsg⟩ := YG hg
       simp only [YP, YL, Act.put, hR]
       have HB9 := Lib.hid (bstep (Tryst2.Grow.below hg (.refl _ _)) HW.out)
       clear hg hR hcg hfg hsg
       go_wp2_with fail
       go_roundw
       case rel => exact ⟨m + 1, by go_num, by omega, HN, HB9⟩
       case measure => simp [intOf] <;> omega
    ·
     have y1 : ¬ (m : Int) + 1 < (l.length : Int) := by omega
     have HN : Hid (R = true) := Lib.hid (HP.out.trans (risO_end (by omega)))
     go_wp2_with fail
     go_ret
     exact ⟨ret_int (by rw [HN.out]; rfl), HW.out⟩
/-- where an offset of a topic stands, or -1 -/
def placeO (l : List OB) (n : ByteArray) : Int := match findO l n with | some i => (i : Int) | none => -1
theorem oplace_c (n : ByteArray) (a : Option Addr) (c : Nat) (l : List OB) (hl : l.length ≤ 1000000) (w : World) (hO : Offs w a l) :
  Calls Tryz.prog 40 #[.slice a l.length c, .string n] w fun e w' => e = .returned (.int .i64 (placeO l n)) ∧ Below w.heap.size w w' := by
 have CI := Lib.hid (fun A W (hb : Below w.heap.size w W) h1 h2 => oindex_c n A a c l hl W (Row.grow hO hb) h1 h2)
 have e0 : idxG (fun x : OB => x.topic.toList == n.toList) l = placeO l n := by
  rw [idxG_find]
  unfold placeO
  cases findO l n <;> rfl
 rw [e0] at CI
 clear e0 hO
 generalize placeO l n = R at CI ⊢
 have HB0 := Lib.hid (balloc (.cells #[.string n] 9) (.refl w.heap.size w))
 go_enter Tryz.func40, Tryz.ntmps40
 go_wp2_with fail
 refine (CI.out ⟨w.heap.size, 0, none⟩ _ HB0.out (by simp [go_sem]) (by simp)).mono ?_
 rintro e w1 ⟨rfl, hb1⟩
 have HB1 := Lib.hid (bstep hb1 HB0.out)
 clear hb1
 go_wp2_with fail
 go_ret
 exact ⟨rfl, HB1.out⟩
theorem oget_c (n : ByteArray) (a : Option Addr) (c : Nat) (l : List OB) (hl : l.length ≤ 1000000) (w : World) (hO : Offs w a l) :
  Calls Tryz.prog 18 #[.slice a l.length c, .string n] w fun e w' => e = .returned (.int .i64 (getO l n)) ∧ Below w.heap.size w w' := by
 have CI := Lib.hid (fun W (hb : Below w.heap.size w W) => oplace_c n a c l hl W (Row.grow hO hb))
 have HF := Lib.hid (fun W (hb : Below w.heap.size w W) => OfR.mk (Row.grow hO hb))
 obtain ⟨R, hR⟩ : ∃ R, getO l n = R := ⟨_, rfl⟩
 rw [hR]
 unfold getO at hR
 unfold placeO at CI
 clear hO
 cases hf : findO l n with
 | none =>
  rw [hf] at CI hR
  have HN := Lib.hid (show R = 0 from hR.symm)
  clear hR hf
  go_enter Tryz.func18, Tryz.ntmps18
  go_wp2_with fail
  refine (CI.out _ (.refl _ _)).mono ?_
  rintro e w1 ⟨rfl, hb1⟩
  go_wp2_with fail
  go_ret
  exact ⟨ret_int HN.out.symm, hb1⟩
 | some i =>
  obtain ⟨hi, hn⟩ := findO_some hf
  rw [hf] at CI hR
  simp only [List.getElem?_eq_getElem hi, Option.getD_some] at hR
  have HN := Lib.hid (show l[i].next = R from hR)
  clear hR hf hn
  go_enter Tryz.func18, Tryz.ntmps18
  go_wp2_with fail
  refine (CI.out _ (.refl _ _)).mono ?_
  rintro e w1 ⟨rfl, hb1⟩
  obtain ⟨b, o, ha, hb⟩ := (HF.out _ hb1).head hi
  subst ha
  obtain ⟨_, f0, f1⟩ := (HF.out _ hb1).r.at hi
  have HB1 := Lib.hid hb1
  clear hb1
  have y1 : ¬ ((i : Int) < 0) := by omega
  go_wp2_with fail
  go_ret
  exact ⟨ret_int HN.out, HB1.out⟩
end Go.Proofs.YtmlbdblnmbmnpaaGreatDoor
namespace Go.Proofs.YtmlbdblnmbmnpaaGreatDoor
open Go.RowKit Tryst
set_option maxHeartbeats 2000000
set_option maxRecDepth 20000
/-- what Put hands back -/
def PutR (w : World) (p : Option (List OB) × Int) (e : Ending) (w' : World) : Prop := ∃ a c, e = .returned (.tuple #[.slice a (p.1.getD []).length c, .int .i64 p.2]) ∧ OOwn w' w.heap.size (.slice a (p.1.getD []).length c) (p.1.getD []) ∧ Below w.heap.size w w'
theorem PutR.bad {w w' : World} {k : Int} {e : Ending} (he : e = .returned (.tuple #[.slice none 0 0, .int .i64 k])) (hb : Below w.heap.size w w') : PutR w (none, k) e w' := ⟨none, 0, he, ROwn.nil _ _ _ _, hb⟩
/-- block g is an offset's box -/
def OX (w : World) (g : Nat) (tp : ByteArray) (nx : Int) : Prop := w.heap[g]? = some (.cells #[.string tp, .int .i64 nx] 31 (0, 0))
theorem OX.grow {w w' : World} {g : Nat} {tp : ByteArray} {nx : Int} (h : OX w g tp nx) (hb : Below w.heap.size w w') : OX w' g tp nx := (hb.block g (Array.getElem?_eq_some_iff.1 h).1).trans h
theorem OX.new (w : World) (tp : ByteArray) (nx : Int) : OX (w.alloc (.cells #[.string tp, .int .i64 nx] 31)) w.heap.size tp nx := by
 show (w.heap.push _)[w.heap.size]? = _
 simp
theorem OX.box {w : World} {g : Nat} {tp : ByteArray} {nx : Int} (h : OX w g tp nx) : g < w.heap.size ∧ w.cell? ⟨g, 0, none⟩ = some (.string tp) ∧ w.cell? ⟨g, 1, none⟩ = some (.int .i64 nx) := by
 have hz := (Array.getElem?_eq_some_iff.1 h).1
 unfold OX at h
 refine ⟨hz, ?_, ?_⟩ <;> simp [World.cell?, h]
def CloneOP (base : Nat) (l : List OB) (v : Value) (w : World) : Prop := ∃ a c, v = .slice a l.length c ∧ OOwn w base (.slice a l.length c) l
theorem CloneOP.at {base : Nat} {l : List OB} {v : Value} {w' : World} (h : ∃ w0, Tryst2.Grow w0 w' ∧ CloneOP base l v w0) : CloneOP base l v w' := by
 obtain ⟨w0, hg, a, c, h1, h2⟩ := h
 exact ⟨a, c, h1, h2.grow hg⟩
theorem CloneOP.of {w w' : World} {base : Nat} {l : List OB} {e : Ending} (hb : base ≤ w.heap.size) (h : CloneKO 31 2 w (l.map OB.cells) l.length e w') : ∃ v, e = .returned v ∧ Tryst2.Grow w w' ∧ ∃ w0, Tryst2.Grow w0 w' ∧ CloneOP base l v w0 := by
 obtain ⟨a, c, rfl, h3, h5⟩ := h
 exact ⟨_, rfl, h5, w', Tryst2.Grow.refl _, a, c, rfl, ROwn.lower h3 hb⟩
theorem OOwn.cap {w : World} {base : Nat} {a : Option Addr} {n c : Nat} {l : List OB} (h : OOwn w base (.slice a n c) l) : c ≤ 9223372036854775807 := by
 rcases h.2 with ⟨hv, _⟩ | ⟨g, cap, cur, hv, _, _, _, h2, _⟩
 ·
  cases hv; omega
 ·
  cases hv; exact h2
/-- a new slice of one offset -/
def OneO (tp : ByteArray) (nx : Int) (v : Value) (w : World) : Prop := ∃ g, v = .slice (some ⟨g, 0, none⟩) 1 1 ∧ OX w g tp nx
theorem OneO.at {tp : ByteArray} {nx : Int} {v : Value} {w' : World} (h : ∃ w0, Tryst2.Grow w0 w' ∧ OneO tp nx v w0) : OneO tp nx v w' := by
 obtain ⟨w0, hg, g, h1, h2⟩ := h
 exact ⟨g, h1, h2.grow hg⟩
theorem OneO.of (w : World) (tp : ByteArray) (nx : Int) : Tryst2.Grow w (w.alloc (.cells #[.string tp, .int .i64 nx] 31)) ∧ ∃ w0, Tryst2.Grow w0 (w.alloc (.cells #[.string tp, .int .i64 nx] 31)) ∧ OneO tp nx (.slice (some ⟨w.heap.size, 0, none⟩) 1 1) w0 :=
 ⟨balloc _ (.refl _ _), _, Tryst2.Grow.refl _, w.heap.size, rfl, OX.new _ _ _⟩
def PlRelO (w : World) (l : List OB) (n : ByteArray) (i : Value) (wr : World) : Prop := ∃ k : Nat, k ≤ l.length ∧ i = .int .i64 k ∧ Hid (∀ (j : Nat) (h : j < l.length), j < k → lessB l[j].topic n = true) ∧ Hid (Below w.heap.size w wr)
/-- an offset of the call's own is written anew -/
theorem OOwn.put {w : World} {base : Nat} {v : Value} {l : List OB} (h : OOwn w base v l) {g : Nat} {n c : Nat} (hv : v = .slice (some ⟨g, 0, none⟩) n c) {i : Nat} (hi : i < l.length) (tp : ByteArray) (nx : Int) :
  OOwn ((w.setCell ⟨g, i * 2, none⟩ (.string tp)).setCell ⟨g, i * 2 + 1, none⟩ (.int .i64 nx)) base v (l.set i ⟨tp, nx⟩) := by
 have hlen := OB.cells_len l
 obtain ⟨g1, c1, hv1, _, _, _, _, h5⟩ := ROwn.block h hlen (by simpa using (by omega : 0 < l.length))
 rw [hv] at hv1
 simp only [Value.slice.injEq, Option.some.injEq, Addr.mk.injEq, and_true] at hv1
 obtain ⟨rfl, _⟩ := hv1
 have h6 := h5 i (by simpa using hi) 0 (by omega) (.string tp)
 have e1 : (l.map OB.cells).set i (((l.map OB.cells)[i]'(by simpa using hi)).set 0 (.string tp)) = (l.set i ⟨tp, l[i].next⟩).map OB.cells := by
  rw [List.map_set, List.getElem_map]
  rfl
 rw [e1] at h6
 obtain ⟨g2, c2, hv2, _, _, _, _, h7⟩ := ROwn.block h6 (OB.cells_len _) (by rw [List.length_map, List.length_set]; omega)
 rw [hv] at hv2
 simp only [Value.slice.injEq, Option.some.injEq, Addr.mk.injEq, and_true] at hv2
 obtain ⟨rfl, _⟩ := hv2
 have h8 := h7 i (by simpa using hi) 1 (by omega) (.int .i64 nx)
 have e2 : ((l.set i ⟨tp, l[i].next⟩).map OB.cells).set i ((((l.set i ⟨tp, l[i].next⟩).map OB.cells)[i]'(by simpa using hi)).set 1 (.int .i64 nx)) = (l.set i ⟨tp, nx⟩).map OB.cells := by
  rw [List.getElem_map, List.getElem_set_self]
  show ((l.set i ⟨tp, l[i].next⟩).map OB.cells).set i (OB.cells ⟨tp, nx⟩) = _
  rw [← List.map_set, List.set_set]
 rw [e2] at h8
 exact h8
theorem OOwn.cells {w : World} {base : Nat} {l : List OB} {g n c : Nat} (h : OOwn w base (.slice (some ⟨g, 0, none⟩) n c) l) {i : Nat} (hi : i < l.length) : OAt w g (i * 2) l[i] := by
 obtain ⟨g1, c1, hv1, _, _, _, h4, _⟩ := ROwn.block h (OB.cells_len l) (by rw [List.length_map]; omega)
 simp only [Value.slice.injEq, Option.some.injEq, Addr.mk.injEq, and_true] at hv1
 obtain ⟨rfl, _⟩ := hv1
 have h0 := h4 i (by simpa using hi) 0 (by omega)
 have h1 := h4 i (by simpa using hi) 1 (by omega)
 rw [List.getElem_map] at h0 h1
 exact ⟨h0, h1⟩
set_option maxHeartbeats 8000000 in
theorem oput_c (a : Option Addr) (c : Nat) (l : List OB) (hl : l.length ≤ 100000) (hS : Sl a c l.length) (hs : ∀ x ∈ l, x.topic.size ≤ 1000000000) (x : OB) (hx : x.topic.size ≤ 1000000000) (w : World) (hM : MaxW w) (hO : Offs w a l) :
  Calls Tryz.prog 13 #[.slice a l.length c, .string x.topic, .int .i64 x.next] w fun e w' => PutR w (putO l x) e w' := by
 have CC := Lib.hid (fun W (hb : Below w.heap.size w W) => ocheck_c a c l (by omega) hs W (hM.grow hb) (Row.grow hO hb))
 have CM := Lib.hid (fun W (hb : Below w.heap.size w W) => omay_c x hx W (hM.grow hb))
 have CP := Lib.hid (fun W (hb : Below w.heap.size w W) => oplace_c x.topic a c l (by omega) W (Row.grow hO hb))
 have HCL := Lib.hid (fun W (hb : Below w.heap.size w W) => cloneO_c a c l (by omega) W (Row.grow hO hb) hS)
 have HF := Lib.hid (fun W (hb : Below w.heap.size w W) => OfR.mk (Row.grow hO hb))
 obtain ⟨p, hp⟩ : ∃ p, putO l x = p := ⟨_, rfl⟩
 rw [hp]
 obtain ⟨tp, nx⟩ := x
 simp only at CM CP ⊢
 have HP := Lib.hid hp
 clear hp hO hM hs
 have HX0 := Lib.hid (OX.new w tp nx)
 have HB0 := Lib.hid (balloc (.cells #[.string tp, .int .i64 nx] 31) (.refl w.heap.size w))
 cases hc : checkO l with
 | false =>
  obtain rfl : p = (none, 1) := HP.out.symm.trans (by unfold putO; rw [hc, if_neg (by simp)])
  rw [hc] at CC
  clear hc HP CM CP HCL HF HX0
  go_enter Tryz.func13, Tryz.ntmps13
  go_wp2_with fail
  refine (CC.out _ HB0.out).mono ?_
  rintro e w1 ⟨rfl, hb1⟩
  have HB1 := Lib.hid (bstep hb1 HB0.out)
  clear hb1
  rw [show errO false = 1 from rfl]
  go_wp2_with fail
  go_ret2
  exact PutR.bad rfl HB1.out
 | true =>
  rw [hc] at CC
  obtain ⟨mb, hmb⟩ : ∃ b, oMay ⟨tp, nx⟩ = b := ⟨_, rfl⟩
  rw [hmb] at CM
  have HC := Lib.hid hc
  clear hc
  go_enter Tryz.func13, Tryz.ntmps13
  go_wp2_with fail
  refine (CC.out _ HB0.out).mono ?_
  rintro e w1 ⟨rfl, hb1⟩
  have HX1 := Lib.hid (HX0.out.grow hb1)
  have HB1 := Lib.hid (bstep hb1 HB0.out)
  clear hb1 HX0 HB0 CC
  rw [show errO true = 0 from rfl]
  have hwG : w.heap.size ≤ w.heap.size := Nat.le_refl _
  obtain ⟨G, hG⟩ : ∃ G, w.heap.size = G := ⟨_, rfl⟩
  rw [hG] at HX1
  simp only [hG]
  obtain ⟨x0, x1, x2⟩ := HX1.out.box
  go_wp2_with fail
  refine (CM.out _ HB1.out).mono ?_
  rintro e w2 ⟨rfl, hb2⟩
  have HX2 := Lib.hid (HX1.out.grow hb2)
  have HB2 := Lib.hid (bstep hb2 HB1.out)
  clear hb2 HX1 HB1 CM x0 x1 x2
  obtain ⟨x0, x1, x2⟩ := HX2.out.box
  cases mb with
  | false =>
   obtain rfl : p = (none, 1) := HP.out.symm.trans (by unfold putO; rw [hmb, if_neg (by simp)])
   clear HP hmb
   go_wp2_with fail
   go_ret2
   exact PutR.bad rfl HB2.out
  | true =>
   have HMB := Lib.hid hmb
   clear hmb
   go_wp2_with fail
   have CP2 := Lib.hid (CP.out _ HB2.out)
   unfold placeO at CP2
   cases hf : findO l tp with
   | some i =>
    obtain ⟨hi, hn⟩ := findO_some hf
    obtain rfl : p = (some (l.set i ⟨tp, nx⟩), 0) := HP.out.symm.trans (by
     unfold putO
     rw [if_pos ⟨HC.out, HMB.out⟩, if_neg (by rw [show findO l (OB.topic ⟨tp, nx⟩) = some i from hf]; simp)]
     have := HC.out
     unfold checkO at this
     rw [Bool.and_eq_true] at this
     rw [withO_set this.2 ⟨tp, nx⟩ hi hn])
    rw [hf] at CP2
    clear hf HP CP hn
    refine CP2.out.mono ?_
    rintro e w3 ⟨rfl, hb3⟩
    have HX3 := Lib.hid (HX2.out.grow hb3)
    have HB3 := Lib.hid (bstep hb3 HB2.out)
    clear hb3 HX2 HB2 CP2 x0 x1 x2
    obtain ⟨x0, x1, x2⟩ := HX3.out.box
    have y1 : (0 : Int) ≤ (i : Int) := by omega
    go_wp2_with fail
    refine (HCL.out _ HB3.out).mono ?_
    rintro e w4 ⟨a4, c4, rfl, h4, hb4⟩
    have hO4 : OOwn w4 w3.heap.size (.slice a4 l.length c4) l := h4
    obtain ⟨g, c', hv, k1, k2, k3⟩ := OOwn.block hO4 (by omega)
    simp only [Value.slice.injEq, true_and] at hv
    obtain ⟨rfl, rfl⟩ := hv
    have HX4 := Lib.hid (HX3.out.grow hb4)
    have HB4 := Lib.hid (bstep hb4 HB3.out)
    have HO4 := Lib.hid hO4
    have hz3 : w.heap.size ≤ w3.heap.size := HB3.out.size
    have hG3 : G < w3.heap.size := x0
    clear hb4 HX3 HB3 x0 x1 x2 h4 hO4
    obtain ⟨x0, x1, x2⟩ := HX4.out.box
    have z0 := k3 (i * 2)
    have z1 := k3 (i * 2 + 1)
    have hGg : G ≠ g := by omega
    obtain ⟨f0, f1⟩ := OOwn.cells HO4.out hi
    go_wp2_with fail
    go_ret2
    have hln : (l.set i (⟨tp, nx⟩ : OB)).length = l.length := List.length_set ..
    have hput := HO4.out.put rfl hi tp nx
    refine ⟨some ⟨g, 0, none⟩, c4, ?_, ?_, ?_⟩
    ·
     simp [hln]
    ·
     show OOwn _ _ (.slice _ (l.set i (⟨tp, nx⟩ : OB)).length _) (l.set i ⟨tp, nx⟩)
     rw [hln]
     exact ROwn.lower hput hz3
    ·
     exact bset _ (show w.heap.size ≤ g by omega) (bset _ (show w.heap.size ≤ g by omega) HB4.out)
   | none =>
    rw [hf] at CP2
    have HNO := Lib.hid (findO_none hf)
    by_cases h20 : (20 : Int) ≤ l.length
    ·
     obtain rfl : p = (none, 6) := HP.out.symm.trans (by
      unfold putO
      rw [if_pos ⟨HC.out, HMB.out⟩, if_pos ⟨by rw [show findO l (OB.topic ⟨tp, nx⟩) = none from hf]; rfl, by omega⟩])
     clear hf HP CP
     refine CP2.out.mono ?_
     rintro e w3 ⟨rfl, hb3⟩
     have HB3 := Lib.hid (bstep hb3 HB2.out)
     clear hb3
     go_wp2_with fail
     go_ret2
     exact PutR.bad rfl HB3.out
    ·
     have HP3 : Hid (p = (some (l.take (aheadO l tp) ++ (⟨tp, nx⟩ : OB) :: l.drop (aheadO l tp)), 0)) := Lib.hid (HP.out.symm.trans (by
      unfold putO
      rw [if_pos ⟨HC.out, HMB.out⟩, if_neg (by omega)]
      have := HC.out
      unfold checkO at this
      rw [Bool.and_eq_true] at this
      rw [withO_ins this.2 ⟨tp, nx⟩ HNO.out]))
     clear hf HP CP
     refine CP2.out.mono ?_
     rintro e w3 ⟨rfl, hb3⟩
     have HX3 := Lib.hid (HX2.out.grow hb3)
     have HB3 := Lib.hid (bstep hb3 HB2.out)
     clear hb3 HX2 HB2 CP2 x0 x1 x2
     go_wp2_with fail
     go_loopw [9] (fun i wr => PlRelO w3 l tp i wr) (fun i _ => l.length - (intOf i).toNat)
     case atStart => exact ⟨0, by omega, rfl, fun _ _ h => by omega, .refl _ _⟩
     case round =>
      obtain ⟨k, hk, rfl, HA, HW⟩ := hrel
      obtain ⟨wo, rfl⟩ : ∃ wo, wo = wr := ⟨_, rfl⟩
      have HXo := Lib.hid (HX3.out.grow HW.out)
      have HBo := Lib.hid (bstep HW.out HB3.out)
      obtain ⟨x0, x1, x2⟩ := HXo.out.box
      by_cases hlt : k < l.length
      ·
       obtain ⟨b, o, ha, hb⟩ := (HF.out _ HBo.out).head hlt
       subst ha
       obtain ⟨_, f0, f1⟩ := (HF.out _ HBo.out).r.at hlt
       have hge : Op.bytesLess l[k].topic.toList tp.toList = lessB l[k].topic tp := by unfold lessB; rw [str_toList, str_toList]
       have HGE := Lib.hid hge
       clear hge
       cases hls : lessB l[k].topic tp with
       | true =>
        have hge : Op.bytesLess l[k].topic.toList tp.toList = true := HGE.out.trans hls
        have HA2 : Hid (∀ (j : Nat) (h : j < l.length), j < k + 1 → lessB l[j].topic tp = true) := Lib.hid (fun j h hj => by
         by_cases e : j = k
         ·
          subst e; exact hls
         ·
          exact HA.out j h (by omega))
        clear hls HGE HA
        go_wp2_with fail
        go_roundw
        case rel => exact ⟨k + 1, by omega, by go_num, HA2, HW⟩
        case measure => simp [intOf] <;> omega
       | false =>
        have hge : Op.bytesLess l[k].topic.toList tp.toList = false := HGE.out.trans hls
        have HPL : Hid (aheadO l tp = k) := Lib.hid (aheadO_stop hlt HA.out hls)
        clear hls HGE HA
        go_upto_region 14 with fail
        refine Tryst2.wp_region_grows [.is (.slice (some ⟨b, o, none⟩) l.length c), .any (CloneOP wo.heap.size l), .is (.int .i64 (k : Int)), .is (.agg #[.string tp, .int .i64 nx]), .any (OneO tp nx)] (by kernel_rfl) (by kernel_rfl) ?obl ?fin
        case obl =>
         simp only [YA, YL, YO, YR, Op.operands, Call.operands]
         repeat' apply And.intro
         any_goals trivial
         all_goals (intro tv w' hg hold hd; (try simp at hold); obtain ⟨hcg, hfg, hsg⟩ := YG hg)
         all_goals first | (go_simp; done) | (go_simp; rw [if_neg (by omega)]; exact ⟨.refl _, rfl⟩) | (obtain ⟨⟨g, hvg, hgg, hcell⟩, _⟩ := hd; have hcell0 := hcell 0 (by decide); simp at hcell0; go_simp; done) | (go_simp; go_at_call 41; (with_reducible refine (HCL.out _ ?_).mono ?_); (exact bstep (Tryst2.Grow.below hg (.refl wo.heap.size wo)) HBo.out); rintro e w5 hcl; obtain ⟨v5, rfl, hv5⟩ := CloneOP.of (base := wo.heap.size) (by omega) hcl; exact hv5) | (go_simp; exact (OneO.of _ tp nx).2)
        case fin =>
         intro tv w' hg hR
         simp only [YF, YL, YR] at hR
         obtain ⟨hcg, hfg, hsg⟩ := YG hg
         simp only [YP, YL, Act.put, hR]
         obtain ⟨a5, c5, e5, h53⟩ := CloneOP.at hR.2.1
         obtain ⟨gv, e6, h6⟩ := OneO.at hR.2.2.2.2.1
         simp only [e5, e6]
         have hbw := Tryst2.Grow.below hg (.refl wo.heap.size wo)
         have hne5 : k < l.length → ∀ A, a5 = some A → gv ≠ A.block := by
          intro hk5 A hA hgA
          obtain ⟨g, c', hv, _, _, _, hat, _⟩ := ROwn.block h53 (OB.cells_len l) (by rw [List.length_map]; omega)
          simp only [Value.slice.injEq] at hv
          rw [hA] at hv
          have hA2 : A = ⟨g, 0, none⟩ := by simpa using hv.1
          have h7 := hat 0 (by rw [List.length_map]; omega) 0 (by omega)
          rw [List.getElem_map] at h7
          rw [hA2] at hgA
          have h8 : w'.cell? ⟨g, 0 * 2 + 0, none⟩ = some (.string tp) := by
           rw [← show gv = g from hgA]
           exact h6.box.2.1
          rw [h8] at h7
          have h9 : tp = (l[0]'(by omega)).topic := by simpa [OB.cells] using h7
          exact HNO.out (l[0]'(by omega)) (List.getElem_mem _) h9.symm
         have HT6 := Lib.hid (OAt.mk (w := w') (b := gv) (o := 0) (t := ⟨tp, nx⟩) h6.box.2.1 h6.box.2.2)
         have HB6 := Lib.hid (bstep hbw HBo.out)
         have hzX : wo.heap.size ≤ w'.heap.size := hbw.size
         have H53 := Lib.hid h53
         have HNE := Lib.hid hne5
         have H6 := Lib.hid h6
         have hwo : w.heap.size ≤ wo.heap.size := HBo.out.size
         clear hR hcg hfg hsg e5 e6 hbw h53 h6 hne5 hg
         go_wp2_with fail
         refine (oins_c wo.heap.size a5 c5 l k (by omega) (by omega) (OOwn.cap H53.out) ⟨tp, nx⟩ gv w' H53.out hzX HNE.out _ H6.out HT6.out).mono ?_
         rintro e w7 ⟨a7, c7, rfl, hO7, hb7, hk7⟩
         have HO7 := Lib.hid hO7
         have HB7 := Lib.hid hb7
         clear hO7 hb7 hk7
         have HP4 := HP3
         rw [HPL.out] at HP4
         generalize hL7 : (l.take k ++ (⟨tp, nx⟩ : OB) :: l.drop k) = L7 at HO7 HP4 ⊢
         clear hL7
         go_wp2_with fail
         go_ret2
         rw [HP4.out]
         exact ⟨a7, c7, rfl, ROwn.lower HO7.out hwo, (HB6.out).trans (HB7.out.mono hwo)⟩
      ·
       have HPL : Hid (aheadO l tp = k) := Lib.hid (by
        have e : k = l.length := by omega
        rw [e]; exact aheadO_all (fun j h => HA.out j h (by omega)))
       go_upto_region 14 with fail
       refine Tryst2.wp_region_grows [.is (.slice (a) l.length c), .any (CloneOP wo.heap.size l), .is (.int .i64 (k : Int)), .is (.agg #[.string tp, .int .i64 nx]), .any (OneO tp nx)] (by kernel_rfl) (by kernel_rfl) ?obl ?fin
       case obl =>
        simp only [YA, YL, YO, YR, Op.operands, Call.operands]
        repeat' apply And.intro
        any_goals trivial
        all_goals (intro tv w' hg hold hd; (try simp at hold); obtain ⟨hcg, hfg, hsg⟩ := YG hg)
        all_goals first | (go_simp; done) | (go_simp; rw [if_neg (by omega)]; exact ⟨.refl _, rfl⟩) | (obtain ⟨⟨g, hvg, hgg, hcell⟩, _⟩ := hd; have hcell0 := hcell 0 (by decide); simp at hcell0; go_simp; done) | (go_simp; go_at_call 41; (with_reducible refine (HCL.out _ ?_).mono ?_); (exact bstep (Tryst2.Grow.below hg (.refl wo.heap.size wo)) HBo.out); rintro e w5 hcl; obtain ⟨v5, rfl, hv5⟩ := CloneOP.of (base := wo.heap.size) (by omega) hcl; exact hv5) | (go_simp; exact (OneO.of _ tp nx).2)
       case fin =>
        intro tv w' hg hR
        simp only [YF, YL, YR] at hR
        obtain ⟨hcg, hfg, hsg⟩ := YG hg
        simp only [YP, YL, Act.put, hR]
        obtain ⟨a5, c5, e5, h53⟩ := CloneOP.at hR.2.1
        obtain ⟨gv, e6, h6⟩ := OneO.at hR.2.2.2.2.1
        simp only [e5, e6]
        have hbw := Tryst2.Grow.below hg (.refl wo.heap.size wo)
        have hne5 : k < l.length → ∀ A, a5 = some A → gv ≠ A.block := by
         intro hk5 A hA hgA
         obtain ⟨g, c', hv, _, _, _, hat, _⟩ := ROwn.block h53 (OB.cells_len l) (by rw [List.length_map]; omega)
         simp only [Value.slice.injEq] at hv
         rw [hA] at hv
         have hA2 : A = ⟨g, 0, none⟩ := by simpa using hv.1
         have h7 := hat 0 (by rw [List.length_map]; omega) 0 (by omega)
         rw [List.getElem_map] at h7
         rw [hA2] at hgA
         have h8 : w'.cell? ⟨g, 0 * 2 + 0, none⟩ = some (.string tp) := by
          rw [← show gv = g from hgA]
          exact h6.box.2.1
         rw [h8] at h7
         have h9 : tp = (l[0]'(by omega)).topic := by simpa [OB.cells] using h7
         exact HNO.out (l[0]'(by omega)) (List.getElem_mem _) h9.symm
        have HT6 := Lib.hid (OAt.mk (w := w') (b := gv) (o := 0) (t := ⟨tp, nx⟩) h6.box.2.1 h6.box.2.2)
        have HB6 := Lib.hid (bstep hbw HBo.out)
        have hzX : wo.heap.size ≤ w'.heap.size := hbw.size
        have H53 := Lib.hid h53
        have HNE := Lib.hid hne5
        have H6 := Lib.hid h6
        have hwo : w.heap.size ≤ wo.heap.size := HBo.out.size
        clear hR hcg hfg hsg e5 e6 hbw h53 h6 hne5 hg
        go_wp2_with fail
        refine (oins_c wo.heap.size a5 c5 l k (by omega) (by omega) (OOwn.cap H53.out) ⟨tp, nx⟩ gv w' H53.out hzX HNE.out _ H6.out HT6.out).mono ?_
        rintro e w7 ⟨a7, c7, rfl, hO7, hb7, hk7⟩
        have HO7 := Lib.hid hO7
        have HB7 := Lib.hid hb7
        clear hO7 hb7 hk7
        have HP4 := HP3
        rw [HPL.out] at HP4
        generalize hL7 : (l.take k ++ (⟨tp, nx⟩ : OB) :: l.drop k) = L7 at HO7 HP4 ⊢
        clear hL7
        go_wp2_with fail
        go_ret2
        rw [HP4.out]
        exact ⟨a7, c7, rfl, ROwn.lower HO7.out hwo, (HB6.out).trans (HB7.out.mono hwo)⟩
end Go.Proofs.YtmlbdblnmbmnpaaGreatDoor
