/- The closure of name.Meets: one more that was met. -/
import Derived.Test.YtmmdblpoecidaaaDoorProg
import Derived.WalkKit
import Derived.WalkSpells
import Derived.WalkLawsBesides
import Derived.Lib.Hide
import Derived.Deep.RegionWith
import Derived.Deep.Cut
import Derived.IntWalk
import Derived.Test.YtmmdblpoecidaaaDoorGlob5
import Derived.Test.YtmmdblpoecidaaaDoorRowK
import Derived.Test.YtmmdblpoecidaaaDoorMapK
import Derived.Test.YtmmdblpoecidaaaDoorMeetP
set_option linter.unusedVariables false
set_option linter.unusedSimpArgs false
namespace Go.Proofs.YtmmdblpoecidaaaDoor
open Go.RowKit Tryst
set_option maxHeartbeats 400000
set_option maxRecDepth 20000
def encL (s : Nat × Nat) : Value := .agg #[.int .i64 (s.1 : Int), .int .i64 (s.2 : Int)]
def okL (s : Nat × Nat) : Prop := s.1 ≤ 1000000000 ∧ s.2 ≤ 1000000000
def cellsL (s : Nat × Nat) : List Value := [.int .i64 (s.1 : Int), .int .i64 (s.2 : Int)]
theorem encL_inj (a b : Nat × Nat) (h : encL a = encL b) : a = b := by
  simp only [encL, Value.agg.injEq, Array.mk.injEq, List.cons.injEq, Value.int.injEq, true_and, and_true] at h
  exact Prod.ext (by omega) (by omega)
theorem checkL (em : Bool) (a b : Int) (w : World) : (Instr.checkKey em 10000 104 (.agg #[.int .i64 a, .int .i64 b])).run Tryd.prog w = .ok () w := by
  kernel_rfl
theorem fieldsL : (Tryd.prog.fieldsOf 104).toList.map (fun f => (f.type, f.offset)) = [(3, 0), (3, 1)] := by kernel_rfl
theorem structL : Tryd.prog.underlying 104 = some (.struct (Tryd.prog.fieldsOf 104)) := by kernel_rfl
theorem equalL (a b c d : Int) (w : World) : (Op.equal 104 (.agg #[.int .i64 a, .int .i64 b]) (.agg #[.int .i64 c, .int .i64 d])).run Tryd.prog w = .ok ((a == c) && (b == d)) w := by
  show (Op.equalIn 10000 104 _ _).run Tryd.prog w = _
  rw [run_equalIn_struct w 9999 104 _ _ structL (by kernel_rfl)]
  go_simp
  by_cases h1 : a = c <;> by_cases h2 : b = d <;> simp [h1, h2]
theorem keyL : RawKey Tryd.prog 104 (fun v => ∃ s, okL s ∧ v = encL s) := by
  refine .of_equal structL ?_ ?_ ?_
  · rintro w em v ⟨s, _, rfl⟩
    exact checkL em _ _ w
  · rintro w a b ⟨s, _, rfl⟩ ⟨u, _, rfl⟩
    refine ⟨_, equalL _ _ _ _ w, ?_⟩
    simp [encL]
  · rintro v ⟨s, _, rfl⟩
    simp [encL, Instr.sameBits]
def cellsW (l : List (Nat × Nat)) : List (List Value) := l.map cellsL
theorem cellsW_len (l : List (Nat × Nat)) : ∀ x ∈ cellsW l, x.length = 2 := by
  intro x hx
  obtain ⟨s, _, rfl⟩ := List.mem_map.1 hx
  rfl
theorem leftT : SliceOf Tryd.prog 106 104 2 16 := .mk' Tryd.underlying106 (z := .agg #[.int .i64 0, .int .i64 0]) (by kernel_rfl) rfl (by decide) (by decide)
def unitF (met : Nat → Nat → Bool) : Nat × Nat → Option Value := fun s => if met s.1 s.2 = true then some (.agg #[]) else none
theorem wpList_lookL {ops : Array Oper} {rest : List Oper} {o : Oper} {a : Act} {Q : Exit → Act → World → Prop} {w : World} {mb n : Nat} {met : Nat → Nat → Bool} (hg : o.guard = none) (m x : Operand) (hop : o.op = Op.lookup 105 m x true)
    (h : MapK encL okL w mb n (unitF met)) (hm : a.eval m = .map (some mb)) {i j : Nat} (hy : okL (i, j)) (hx : a.eval x = .agg #[.int .i64 (i : Int), .int .i64 (j : Int)])
    (hK : wpList Tryd.prog ops Q rest (a.put o.dst (.tuple #[.agg #[], .bool (met i j)])) w) : wpList Tryd.prog ops Q (o :: rest) a w := by
  refine wpList_lookK keyL encL_inj hg m x true hop h Tryd.underlying105 (z := .agg #[]) (by kernel_rfl) hm hy hx ?_
  have e1 : ((unitF met (i, j)).getD (.agg #[])) = .agg #[] := by unfold unitF; split <;> rfl
  have e2 : (unitF met (i, j)).isSome = met i j := by unfold unitF; cases met i j <;> rfl
  rw [if_pos rfl, e1, e2]
  exact hK
/-- what the loop holds in memory: the boxes M (the map mb) and K (what is to do) -/
structure MS (w : World) (M K mb : Nat) (met : Nat → Nat → Bool) (work : List (Nat × Nat)) (W : World) : Prop where
  bel : Below w.heap.size w W
  hM : W.heap[M]? = some (.cells #[.map (some mb)] 105 (0, 0))
  hK : ∃ v, W.heap[K]? = some (.cells #[v] 106 (0, 0)) ∧ ROwn 104 2 W w.heap.size v (cellsW work)
  map : ∃ n, MapK encL okL W mb n (unitF met)
  lM : w.heap.size ≤ M
  lK : w.heap.size ≤ K
  lm : w.heap.size ≤ mb
theorem cell_of {W : World} {b : Nat} {v : Value} {T : TypeId} (h : W.heap[b]? = some (.cells #[v] T (0, 0))) : W.cell? ⟨b, 0, none⟩ = some v ∧ W.frozen? ⟨b, 0, none⟩ = false ∧ b < W.heap.size := by
  refine ⟨?_, ?_, (Array.getElem?_eq_some_iff.1 h).1⟩
  · simp [World.cell?, h]
  · simp [World.frozen?, h]
theorem MS.alloc {w : World} {M K mb : Nat} {met : Nat → Nat → Bool} {work : List (Nat × Nat)} {W : World} (h : MS w M K mb met work W) (o : Obj) : MS w M K mb met work (W.alloc o) := by
  obtain ⟨h1, h2, ⟨v, h3, h4⟩, ⟨n, h5⟩, h7, h8, h9⟩ := h
  have hb : ∀ {k : Nat} {x : Obj}, W.heap[k]? = some x → (W.alloc o).heap[k]? = some x := fun hk => (Below.heap_alloc _ _ _ (Array.getElem?_eq_some_iff.1 hk).1).trans hk
  exact ⟨balloc o h1, hb h2, ⟨v, hb h3, h4.alloc o⟩, ⟨n, h5.grow (balloc o (.refl _ _))⟩, h7, h8, h9⟩
theorem MS.neM {w : World} {M K mb : Nat} {met : Nat → Nat → Bool} {work : List (Nat × Nat)} {W : World} (h : MS w M K mb met work W) : M ≠ W.heap.size := by
  have := (Array.getElem?_eq_some_iff.1 h.hM).1
  omega
theorem MS.neK {w : World} {M K mb : Nat} {met : Nat → Nat → Bool} {work : List (Nat × Nat)} {W : World} (h : MS w M K mb met work W) : K ≠ W.heap.size := by
  obtain ⟨v, h1, _⟩ := h.hK
  have := (Array.getElem?_eq_some_iff.1 h1).1
  omega
theorem map_ne {A : Type} {enc : A → Value} {ok : A → Prop} {w : World} {b n : Nat} {f : A → Option Value} (h : MapK enc ok w b n f) {g : Nat} {cur : Array Value} {T : TypeId} {z : Nat × Nat} (hc : w.heap[g]? = some (.cells cur T z)) : g ≠ b := by
  rintro rfl
  obtain ⟨es, c, h1, _⟩ := h
  rw [h1] at hc
  cases hc
theorem map_ne_cell {A : Type} {enc : A → Value} {ok : A → Prop} {w : World} {b n : Nat} {f : A → Option Value} (h : MapK enc ok w b n f) {g o : Nat} {u : Value} (hc : w.cell? ⟨g, o, none⟩ = some u) : g ≠ b := by
  rintro rfl
  obtain ⟨es, c, h1, _⟩ := h
  simp [World.cell?, h1] at hc
theorem MS.put {w : World} {M K mb : Nat} {met : Nat → Nat → Bool} {work : List (Nat × Nat)} {Z Z2 : World} (h : MS w M K mb met work Z) (s : Nat × Nat) {n : Nat} (hm : MapK encL okL Z2 mb n (fun x => if x = s then some (.agg #[]) else unitF met x)) (hg : Z.grownBy Z2 (some mb)) : MS w M K mb (setM met s) work Z2 := by
  obtain ⟨h1, h2, ⟨v, h3, h4⟩, ⟨n0, h5⟩, h7, h8, h9⟩ := h
  have hk : ∀ {k : Nat} {cur : Array Value} {T : TypeId} {z : Nat × Nat}, Z.heap[k]? = some (.cells cur T z) → Z2.heap[k]? = some (.cells cur T z) := fun hc => (hg.block _ (Array.getElem?_eq_some_iff.1 hc).1 (by simpa using map_ne h5 hc)).trans hc
  refine ⟨h1.grown hg (by have := h1.size; omega) (fun j hj => by cases hj; exact h9), hk h2, ⟨v, hk h3, ?_⟩, ⟨n, hm.congr fun x => ?_⟩, h7, h8, h9⟩
  · refine own_stays h4 fun A m c hv => ?_
    obtain ⟨cur, hc⟩ := h4.typed A m c hv
    exact (hk hc).trans hc.symm
  · obtain ⟨i, j⟩ := x
    unfold unitF setM
    by_cases e : (i, j) = s
    · simp [e]
    · simp [e]
theorem set_one {W : World} {b : Nat} {v u : Value} {T : TypeId} (h : W.heap[b]? = some (.cells #[v] T (0, 0))) : (W.setCell ⟨b, 0, none⟩ u).heap[b]? = some (.cells #[u] T (0, 0)) := by
  simp [World.setCell, Array.getElem?_modify, h]
theorem MS.push {w : World} {M K mb : Nat} {met : Nat → Nat → Bool} {work work' : List (Nat × Nat)} {Z Z3 : World} {v v3 : Value} (h : MS w M K mb met work Z) (hk : Z.heap[K]? = some (.cells #[v] 106 (0, 0))) (hv : ROwn 104 2 Z w.heap.size v (cellsW work))
    (ho3 : ROwn 104 2 Z3 w.heap.size v3 (cellsW work')) (hb3 : Below w.heap.size Z Z3) (hs3 : ∀ k, k < Z.heap.size → Away v k → Z3.heap[k]? = Z.heap[k]?) : MS w M K mb met work' (Z3.setCell ⟨K, 0, none⟩ v3) := by
  obtain ⟨h1, h2, _, ⟨n0, h5⟩, h7, h8, h9⟩ := h
  have hM3 : Z3.heap[M]? = some (.cells #[.map (some mb)] 105 (0, 0)) := (hs3 M (Array.getElem?_eq_some_iff.1 h2).1 (typed_ne hv h2 (by decide))).trans h2
  have hK3 : Z3.heap[K]? = some (.cells #[v] 106 (0, 0)) := (hs3 K (Array.getElem?_eq_some_iff.1 hk).1 (typed_ne hv hk (by decide))).trans hk
  have hMK : M ≠ K := by
    rintro rfl
    rw [h2] at hk
    simp at hk
  have hKm : K ≠ mb := map_ne h5 hk
  have hmv : Away v mb := fun A m c hv' hb => by
    obtain ⟨cur, hc⟩ := hv.typed A m c hv'
    exact map_ne h5 hc hb
  have h53 : MapK encL okL Z3 mb n0 (unitF met) := h5.of_block (hs3 mb h5.lt hmv)
  refine ⟨(h1.trans hb3).setCell (p := ⟨K, 0, none⟩) h8 _, (Below.heap_setCell _ _ _ _ hMK).trans hM3, ⟨v3, set_one hK3, own_setCell_off ho3 _ (typed_ne ho3 hK3 (by decide))⟩, ⟨n0, h53.away hKm _⟩, h7, h8, h9⟩
/-- a call of the closure leaves all other blocks as they are -/
def KeepB (W : World) (K mb : Nat) (W' : World) : Prop := ∀ k, k < W.heap.size → k ≠ K → k ≠ mb → (∀ v, W.heap[K]? = some (.cells #[v] 106 (0, 0)) → Away v k) → W'.heap[k]? = W.heap[k]?
theorem KeepB.of_below {W W' : World} {K mb : Nat} (h : Below W.heap.size W W') : KeepB W K mb W' := fun k hk _ _ _ => h.block k hk
theorem add_c (w : World) (M K mb : Nat) (met : Nat → Nat → Bool) (work : List (Nat × Nat)) (s : Nat × Nat) (hs : okL s) (W : World) (hW : MS w M K mb met work W) (hn : work.length ≤ 1000000) :
    Calls Tryd.prog 71 #[encL s, .pointer (some ⟨M, 0, none⟩), .pointer (some ⟨K, 0, none⟩)] W fun e W' => e = .returned (.tuple #[]) ∧ MS w M K mb (addM (met, work) s).1 (addM (met, work) s).2 W' ∧ KeepB W K mb W' := by
  have HS := Lib.hid hs
  have HW := Lib.hid hW
  obtain ⟨a, b⟩ := s
  unfold encL
  simp only
  cases hm : met a b with
  | true =>
    have e : addM (met, work) (a, b) = (met, work) := by unfold addM; rw [if_pos hm]
    rw [e]
    clear e
    go_enter Tryd.func71, Tryd.ntmps71
    go_upto_region 1 with fail
    refine wp_genC (fun Y => Hid (Below W.heap.size W Y) ∧ Hid (MS w M K mb met work Y) ∧ Hid (Y.cell? ⟨W.heap.size, 0, none⟩ = some (.int .i64 (a : Int)) ∧ Y.cell? ⟨W.heap.size, 1, none⟩ = some (.int .i64 (b : Int)) ∧ W.heap.size < Y.heap.size) ∧ M ≠ W.heap.size ∧ K ≠ W.heap.size) ⟨balloc _ (.refl _ _), HW.out.alloc _, ⟨by simp [go_sem], by simp [go_sem], by simp⟩, HW.out.neM, HW.out.neK⟩ ?_
    rintro Y ⟨HBY, HY, HX, hMB, hKB⟩
    generalize W.heap.size = B at HX hMB hKB
    obtain ⟨x0, x1, x2⟩ := HX.out
    obtain ⟨m0, m1, m2⟩ := cell_of HY.out.hM
    obtain ⟨n, hmp⟩ := HY.out.map
    have HMP := Lib.hid hmp
    clear hW hmp
    go_wp2_with (at_lookup; refine wpList_lookL rfl _ _ rfl HMP.out rfl HS.out rfl ?_)
    go_end0
    exact ⟨rfl, HY.out.alloc _, .of_below (balloc _ HBY.out)⟩
  | false =>
    have e : addM (met, work) (a, b) = (setM met (a, b), work ++ [(a, b)]) := by unfold addM; rw [if_neg (by simp [hm])]
    rw [e]
    clear e
    go_enter Tryd.func71, Tryd.ntmps71
    go_upto_region 1 with fail
    refine wp_genC (fun Y => Hid (Below W.heap.size W Y) ∧ Hid (MS w M K mb met work Y) ∧ Hid (Y.cell? ⟨W.heap.size, 0, none⟩ = some (.int .i64 (a : Int)) ∧ Y.cell? ⟨W.heap.size, 1, none⟩ = some (.int .i64 (b : Int)) ∧ W.heap.size < Y.heap.size) ∧ M ≠ W.heap.size ∧ K ≠ W.heap.size) ⟨balloc _ (.refl _ _), HW.out.alloc _, ⟨by simp [go_sem], by simp [go_sem], by simp⟩, HW.out.neM, HW.out.neK⟩ ?_
    rintro Y ⟨HBY, HY, HX, hMB, hKB⟩
    generalize W.heap.size = B at HX hMB hKB
    obtain ⟨x0, x1, x2⟩ := HX.out
    obtain ⟨m0, m1, m2⟩ := cell_of HY.out.hM
    obtain ⟨n, hmp⟩ := HY.out.map
    have HMP := Lib.hid hmp
    clear hW hmp
    go_upto_region 3 with (at_lookup; refine wpList_lookL rfl _ _ rfl HMP.out rfl HS.out rfl ?_)
    refine wp_genC (fun Z => Hid (Below W.heap.size W Z) ∧ Hid (MS w M K mb met work Z) ∧ Hid (Z.cell? ⟨B, 0, none⟩ = some (.int .i64 (a : Int)) ∧ Z.cell? ⟨B, 1, none⟩ = some (.int .i64 (b : Int)) ∧ B < Z.heap.size)) ⟨balloc _ HBY.out, HY.out.alloc _, ⟨by rw [(balloc (w := Y) (.cells #[] 75) (.refl _ _)).cell (p := ⟨B, 0, none⟩) x2]; exact x0, by rw [(balloc (w := Y) (.cells #[] 75) (.refl _ _)).cell (p := ⟨B, 1, none⟩) x2]; exact x1, by simp; omega⟩⟩ ?_
    rintro Z ⟨HBZ, HZ, HX2⟩
    clear x0 x1 x2 m0 m1 m2 HMP HX HY HBY
    obtain ⟨x0, x1, x2⟩ := HX2.out
    obtain ⟨m0, m1, m2⟩ := cell_of HZ.out.hM
    obtain ⟨n2, hmp⟩ := HZ.out.map
    have HMP := Lib.hid hmp
    clear hmp
    go_upto_region 4 with (refine wpList_putK keyL encL_inj rfl _ _ _ (.inl rfl) HMP.out Tryd.underlying105 rfl HS.out rfl (v := .agg #[]) rfl ?_; intro Z2 hm2 hg2 hz2)
    have HZ2 := Lib.hid (HZ.out.put (a, b) hm2 hg2)
    have hBm := map_ne_cell HMP.out x0
    have y0 : Z2.cell? ⟨B, 0, none⟩ = some (.int .i64 (a : Int)) := (World.cell?_of_block (w := Z) (a := ⟨B, 0, none⟩) (hg2.block B x2 (by simpa using hBm))).trans x0
    have y1 : Z2.cell? ⟨B, 1, none⟩ = some (.int .i64 (b : Int)) := (World.cell?_of_block (w := Z) (a := ⟨B, 1, none⟩) (hg2.block B x2 (by simpa using hBm))).trans x1
    have y2 : B < Z2.heap.size := by omega
    have HG2 := Lib.hid hg2
    clear hm2 hg2 hz2 HX2 x0 x1 x2 m0 m1 m2 HMP HZ hBm
    obtain ⟨v, hk, ho⟩ := HZ2.out.hK
    obtain ⟨k0, k1, k2⟩ := cell_of hk
    have HO := Lib.hid ho
    have hwz : w.heap.size ≤ Z2.heap.size := HZ2.out.bel.size
    have hln : (cellsW work).length = work.length := by simp [cellsW]
    have HK := Lib.hid hk
    have HAK := Lib.hid (typed_ne ho hk (by decide))
    clear ho hk
    go_wp2_with (at_builtin; refine wpList_appR leftT rfl _ _ rfl w.heap.size v (cellsW work) work.length hln rfl (HO.out.alloc _) (cellsL (a, b)) rfl (by intro u hu; simp [cellsL] at hu; rcases hu with rfl | rfl <;> rfl) Z2.heap.size rfl (by intro j hj; rcases j with _ | _ | j <;> first | (simp [go_sem, cellsL]; done) | omega) (by omega) (by simp; omega) ?_; intro v3 Z3 ho3 hb3 hs3; obtain ⟨a3, c3, hv3, _⟩ := ho3.row (by intro x hx; rcases List.mem_append.1 hx with hx | hx; exact cellsW_len _ x hx; rw [List.mem_singleton] at hx; subst hx; rfl) (by decide); subst hv3; have hk3 := (hs3 K (by simp; omega) HAK.out).trans ((Below.heap_alloc _ _ _ k2).trans HK.out); obtain ⟨p0, p1, p2⟩ := cell_of hk3; have HO3 := Lib.hid ho3; have HB3 := Lib.hid hb3; have HS3 := Lib.hid hs3; clear ho3 hb3 hs3)
    go_end0
    refine ⟨rfl, ?_⟩
    have hl : (cellsW work ++ [cellsL (a, b)]).length = work.length + 1 := by simp [cellsW]
    have ho := HO3.out
    rw [hl, show cellsW work ++ [cellsL (a, b)] = cellsW (work ++ [(a, b)]) by simp [cellsW]] at ho
    refine ⟨(HZ2.out.alloc _).push ((Below.heap_alloc _ _ _ k2).trans HK.out) (HO.out.alloc _) ho HB3.out HS3.out, fun k q1 q2 q3 q4 => ?_⟩
    have e1 : Z.heap[k]? = W.heap[k]? := HBZ.out.block k q1
    have qz : k < Z.heap.size := Nat.lt_of_lt_of_le q1 HBZ.out.size
    have e2 : Z2.heap[k]? = Z.heap[k]? := HG2.out.block k qz (by simpa using q3)
    have qz2 : k < Z2.heap.size := Nat.lt_of_lt_of_le qz HG2.out.size
    have hKW : K < W.heap.size := by
      obtain ⟨_, h, _⟩ := HW.out.hK
      exact (Array.getElem?_eq_some_iff.1 h).1
    have hKm : K ≠ mb := by
      obtain ⟨_, h⟩ := HW.out.map
      obtain ⟨_, h2, _⟩ := HW.out.hK
      exact map_ne h h2
    have hv : W.heap[K]? = some (.cells #[v] 106 (0, 0)) := by
      rw [← HBZ.out.block K hKW, ← HG2.out.block K (Nat.lt_of_lt_of_le hKW HBZ.out.size) (by simpa using hKm)]
      exact HK.out
    exact (Below.heap_setCell _ _ _ _ q2).trans ((HS3.out k (by simp; omega) (q4 v hv)).trans ((Below.heap_alloc _ _ _ qz2).trans (e2.trans e1)))
theorem add_d (w : World) (M K mb : Nat) (met : Nat → Nat → Bool) (work : List (Nat × Nat)) (a b : Nat) (x y : Int) (hx : x = (a : Int)) (hy : y = (b : Int)) (ha : a ≤ 1000) (hb : b ≤ 1000) (W : World) (hW : MS w M K mb met work W) (hn : work.length ≤ 1000000) :
    Calls Tryd.prog 71 #[.agg #[.int .i64 x, .int .i64 y], .pointer (some ⟨M, 0, none⟩), .pointer (some ⟨K, 0, none⟩)] W fun e W' => e = .returned (.tuple #[]) ∧ MS w M K mb (addM (met, work) (a, b)).1 (addM (met, work) (a, b)).2 W' ∧ KeepB W K mb W' := by
  subst hx hy
  exact add_c w M K mb met work (a, b) ⟨by show a ≤ _; omega, by show b ≤ _; omega⟩ W hW hn
end Go.Proofs.YtmmdblpoecidaaaDoor
