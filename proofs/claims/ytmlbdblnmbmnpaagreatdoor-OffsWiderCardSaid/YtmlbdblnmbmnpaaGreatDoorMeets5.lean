/- Maps by any keys; name.Meets. -/
import Derived.WalkKit
import Derived.WalkSpells
import Derived.Maps.OwnSet
import Derived.Maps.Views
import Derived.StringKeys
import Derived.DeepKeys5
import Derived.Test.YtmlbdblnmbmnpaaGreatDoorProg
import Derived.WalkLawsBesides
import Derived.Lib.Hide
import Derived.Deep.RegionWith
import Derived.Deep.Cut
import Derived.IntWalk
import Derived.Test.YtmlbdblnmbmnpaaGreatDoorGlob5
import Derived.Test.YtmlbdblnmbmnpaaGreatDoorRowK
import Derived.Test.YtmlbdblnmbmnpaaGreatDoorPrF
set_option linter.unusedVariables false
set_option linter.unusedSimpArgs false
namespace Tryst
open Go Go.RowKit
/-- which values are keys of a type: they are asked for by what they are -/
structure RawKey (P : Program) (k : TypeId) (KS : Value → Prop) : Prop where
 check : ∀ (w : World) (em : Bool) {v : Value}, KS v → (Instr.checkKey em 10000 k v).run P w = .ok () w
 find : ∀ (w : World) {x : Value}, KS x → ∀ es : List MapEntry, (∀ e ∈ es, KS e.key) →
  ((Instr.findKey k x es).run P w = .ok none w ∧ ∀ e ∈ es, e.key ≠ x) ∨ ∃ j e, (Instr.findKey k x es).run P w = .ok (some (j, e.val)) w ∧ es[j]? = some e ∧ e.key = x
 stays : ∀ (w : World) {v : Value}, KS v → (Instr.keyThatStays v v).run P w = .ok v w
theorem RawKey.sub {P : Program} {k : TypeId} {KS KS' : Value → Prop} (K : RawKey P k KS) (h : ∀ v, KS' v → KS v) : RawKey P k KS' where
 check w em := fun hv => K.check w em (h _ hv)
 find w := fun hx es hes => K.find w (h _ hx) es (fun e he => h _ (hes e he))
 stays w := fun hv => K.stays w (h _ hv)
/-- a struct's values: they are asked for one by one -/
theorem RawKey.of_equal {P : Program} {k : TypeId} {KS : Value → Prop} {fs : Array Field} (hu : P.underlying k = some (.struct fs)) (hc : ∀ (w : World) (em : Bool) {v : Value}, KS v → (Instr.checkKey em 10000 k v).run P w = .ok () w)
  (he : ∀ (w : World) {a b : Value}, KS a → KS b → ∃ r : Bool, (Op.equal k a b).run P w = .ok r w ∧ (r = true ↔ a = b)) (hb : ∀ {v : Value}, KS v → Instr.sameBits 10000 v v = true) : RawKey P k KS where
 check w em := fun h => hc w em h
 find w := by
  intro x hx es hes
  have asking : ∀ (l : List MapEntry) (i : Nat), (∀ e ∈ l, KS e.key) → ((Instr.findAsking k x l i).run P w = .ok none w ∧ ∀ e ∈ l, e.key ≠ x) ∨ ∃ j e, (Instr.findAsking k x l i).run P w = .ok (some (i + j, e.val)) w ∧ l[j]? = some e ∧ e.key = x := by
   intro l
   induction l with
   | nil => exact fun i _ => .inl ⟨by simp [Instr.findAsking], by simp⟩
   | cons e l ih =>
    intro i h
    obtain ⟨r, hr, hi⟩ := he w hx (h e List.mem_cons_self)
    cases r with
    | true => exact .inr ⟨0, e, by simp [Instr.findAsking, hr], rfl, (hi.1 rfl).symm⟩
    | false =>
     rcases ih (i + 1) (fun y hy => h y (List.mem_cons_of_mem _ hy)) with ⟨h1, h2⟩ | ⟨j, e', h1, h2, h3⟩
     ·
      refine .inl ⟨by simp [Instr.findAsking, hr, h1], fun y hy => ?_⟩
      rcases List.mem_cons.1 hy with rfl | hy
      ·
       intro q
       have := hi.2 q.symm
       cases this
      ·
       exact h2 y hy
     ·
      exact .inr ⟨j + 1, e', by simp [Instr.findAsking, hr, h1]; omega, by simpa using h2, h3⟩
  have now : ∀ (l : List MapEntry), Instr.findNow (.struct fs) x l 0 = if l = [] then some none else none := by
   intro l
   cases l with
   | nil => rfl
   | cons e l =>
    unfold Instr.findNow
    have : Instr.sameNow (.struct fs) x e.key = none := by unfold Instr.sameNow; rfl
    rw [this]
    rfl
  unfold Instr.findKey
  simp only [Sem.run_bind, run_underlying hu, Result.andThen_ok, now]
  by_cases hn : es = []
  ·
   subst hn
   exact .inl ⟨by simp, by simp⟩
  ·
   rw [if_neg hn]
   simpa using asking es 0 hes
 stays w := by
  intro v h
  simp [Instr.keyThatStays, hb h]
/-- block b is a map whose keys are 'enc a': f tells what each one holds -/
def MapK {A : Type} (enc : A → Value) (ok : A → Prop) (w : World) (b n : Nat) (f : A → Option Value) : Prop :=
 ∃ es clock, w.heap[b]? = some (.map es clock) ∧ es.size ≤ n ∧ (∀ e ∈ es.toList, ∃ a, ok a ∧ e.key = enc a ∧ f a = some e.val) ∧ es.toList.Pairwise (fun x y => x.key ≠ y.key) ∧ (∀ a v, f a = some v → ok a ∧ ∃ e ∈ es.toList, e.key = enc a)
section
variable {A : Type} {enc : A → Value} {ok : A → Prop} {P : Program} {k e t : TypeId} {w w' : World} {b n : Nat} {f : A → Option Value}
theorem MapK.lt (h : MapK enc ok w b n f) : b < w.heap.size := by
 obtain ⟨es, c, h1, _⟩ := h
 exact (Array.getElem?_eq_some_iff.1 h1).1
theorem MapK.of_block (h : MapK enc ok w b n f) (hb : w'.heap[b]? = w.heap[b]?) : MapK enc ok w' b n f := by
 obtain ⟨es, c, h1, h2⟩ := h
 exact ⟨es, c, hb.trans h1, h2⟩
theorem MapK.growB (h : MapK enc ok w b n f) {B : Nat} (hB : b < B) (hb : Below B w w') : MapK enc ok w' b n f := h.of_block (hb.block b hB)
theorem MapK.grow (h : MapK enc ok w b n f) (hb : Below w.heap.size w w') : MapK enc ok w' b n f := h.growB h.lt hb
theorem MapK.away (h : MapK enc ok w b n f) {c o : Nat} (hc : c ≠ b) (u : Value) : MapK enc ok (w.setCell ⟨c, o, none⟩ u) b n f := h.of_block (Below.heap_setCell _ _ _ _ (fun e => hc e.symm))
theorem MapK.made (enc : A → Value) (ok : A → Prop) (w : World) : MapK enc ok (w.alloc (.map #[] 0)) w.heap.size 0 (fun _ => none) :=
 ⟨#[], 0, (MapKept.heap_alloc w _).1, Nat.le_refl _, by simp, by simp, by simp⟩
theorem MapK.congr {f' : A → Option Value} (h : MapK enc ok w b n f) (hf : ∀ a, f a = f' a) : MapK enc ok w b n f' := by
 obtain rfl : f = f' := funext hf
 exact h
theorem MapK.mono {n' : Nat} (h : MapK enc ok w b n f) (hn : n ≤ n') : MapK enc ok w b n' f := by
 obtain ⟨es, c, h1, h2, h3⟩ := h
 exact ⟨es, c, h1, Nat.le_trans h2 hn, h3⟩
variable (K : RawKey P k (fun v => ∃ a, ok a ∧ v = enc a)) (hi : ∀ a a', enc a = enc a' → a = a')
include K hi
theorem MapK.look (h : MapK enc ok w b n f) (ht : P.underlying t = some (.map k e)) {z : Value} (hz : (zeroValue e).run P w = .ok z w) {a : A} (ha : ok a) (c : Bool) :
  (Instr.lookup t (.map (some b)) (enc a) c).run P w = .ok (if c then .tuple #[(f a).getD z, .bool (f a).isSome] else (f a).getD z) w := by
 obtain ⟨es, cl, h1, h2, h3, hp, h4⟩ := h
 have hk : ∀ e ∈ es.toList, ∃ a, ok a ∧ e.key = enc a := fun e he => by
  obtain ⟨a, h5, h6, _⟩ := h3 e he
  exact ⟨a, h5, h6⟩
 rcases K.find w ⟨a, ha, rfl⟩ es.toList hk with ⟨g1, g2⟩ | ⟨j, e0, g1, g2, g3⟩
 ·
  have hn : f a = none := by
   cases hf : f a with
   | none => rfl
   | some v =>
    obtain ⟨_, e, he, hke⟩ := h4 a v hf
    exact absurd hke (g2 e he)
  rw [hn]
  simp [Instr.lookup, run_underlying ht, MapKept.run_getObj_map h1, K.check w _ ⟨a, ha, rfl⟩, g1, hz, Result.andThen]
 ·
  obtain ⟨a', _, h6, h7⟩ := h3 e0 (List.mem_of_getElem? g2)
  obtain rfl : a' = a := hi _ _ (h6.symm.trans g3)
  rw [h7]
  simp [Instr.lookup, run_underlying ht, MapKept.run_getObj_map h1, K.check w _ ⟨a', ha, rfl⟩, g1, Result.andThen]
theorem MapK.put (h : MapK enc ok w b n f) (ht : P.underlying t = some (.map k e)) [DecidableEq A] {a : A} (ha : ok a) (v : Value) :
  ∃ w', (Instr.mapUpdate t (.map (some b)) (enc a) v).run P w = .ok () w' ∧ MapK enc ok w' b (n + 1) (fun x => if x = a then some v else f x) ∧ w.grownBy w' (some b) ∧ w'.heap.size = w.heap.size := by
 obtain ⟨es, cl, h1, h2, h3, hp, h4⟩ := h
 have hlt := (Array.getElem?_eq_some_iff.1 h1).1
 have hk : ∀ e ∈ es.toList, ∃ a, ok a ∧ e.key = enc a := fun e he => by
  obtain ⟨a, h5, h6, _⟩ := h3 e he
  exact ⟨a, h5, h6⟩
 have grown : ∀ o : Obj, w.grownBy (ChangeMaps.setBlock w b o) (some b) := fun o => ⟨rfl, rfl, rfl, by simp [ChangeMaps.setBlock], fun i _ hi => ChangeMaps.heap_setBlock_other h1 o (fun e => hi (by rw [e]))⟩
 have hsz : ∀ o : Obj, (ChangeMaps.setBlock w b o).heap.size = w.heap.size := fun o => by simp [ChangeMaps.setBlock]
 rcases K.find w ⟨a, ha, rfl⟩ es.toList hk with ⟨g1, g2⟩ | ⟨j, e0, g1, g2, g3⟩
 ·
  refine ⟨ChangeMaps.setBlock w b (.map (es.push ⟨enc a, v, cl⟩) (cl + 1)), by simp [Instr.mapUpdate, run_underlying ht, MapKept.run_getObj_map h1, K.check w false ⟨a, ha, rfl⟩, g1, MapKept.run_setObj_map _ h1, Result.andThen, ChangeMaps.setBlock], ⟨es.push ⟨enc a, v, cl⟩, cl + 1, ChangeMaps.heap_setBlock_same h1 _, by simp; omega, fun x hx => ?_, ?_, fun x u hx => ?_⟩, grown _, hsz _⟩
  ·
   simp only [Array.toList_push, List.mem_append, List.mem_singleton] at hx
   rcases hx with hx | rfl
   ·
    obtain ⟨y, y1, y2, y3⟩ := h3 x hx
    refine ⟨y, y1, y2, ?_⟩
    exact (if_neg (fun e => g2 x hx (by rw [y2, e]))).trans y3
   ·
    exact ⟨a, ha, rfl, if_pos rfl⟩
  ·
   rw [Array.toList_push, List.pairwise_append]
   refine ⟨hp, by simp, fun x hx y hy => ?_⟩
   rw [List.mem_singleton] at hy
   subst hy
   exact g2 x hx
  ·
   by_cases hxa : x = a
   ·
    subst hxa
    exact ⟨ha, ⟨enc x, v, cl⟩, by simp, rfl⟩
   ·
    replace hx : f x = some u := (if_neg hxa).symm.trans hx
    obtain ⟨y1, e, y2, y3⟩ := h4 x u hx
    exact ⟨y1, e, by simp [y2], y3⟩
 ·
  have hj : es[j]? = some e0 := by simpa using g2
  have hjl : j < es.toList.length := (List.getElem?_eq_some_iff.1 g2).1
  have hlist : (es.modify j (fun e' => { e' with key := enc a, val := v })).toList = es.toList.set j { e0 with key := enc a, val := v } := by rw [Array.toList_modify, ChangeMaps.modify_eq_set _ _ _ _ g2]
  have hne : ∀ x ∈ es.toList, x.key = enc a → x = e0 := fun x hx hxk => by
   obtain ⟨i, hi', rfl⟩ := List.mem_iff_getElem.1 hx
   obtain ⟨_, he0⟩ := List.getElem?_eq_some_iff.1 g2
   rcases Nat.lt_trichotomy i j with hij | hij | hij
   ·
    exact absurd (hxk.trans (g3.symm.trans (by rw [he0]))) (List.pairwise_iff_getElem.1 hp i j hi' hjl hij)
   ·
    subst hij; exact he0
   ·
    exact absurd (((by rw [he0]; exact g3) : es.toList[j].key = enc a).trans hxk.symm) (List.pairwise_iff_getElem.1 hp j i hjl hi' hij)
  refine ⟨ChangeMaps.setBlock w b (.map (es.modify j (fun e' => { e' with key := enc a, val := v })) cl), ?_, ⟨_, cl, ChangeMaps.heap_setBlock_same h1 _, by simp; omega, fun x hx => ?_, ?_, fun x u hx => ?_⟩, grown _, hsz _⟩
  ·
   have hst := K.stays w ⟨a, ha, rfl⟩
   simp [Instr.mapUpdate, run_underlying ht, MapKept.run_getObj_map h1, K.check w false ⟨a, ha, rfl⟩, g1, MapKept.run_setObj_map _ h1, Result.andThen, ChangeMaps.setBlock, hj, g3, hst]
  ·
   rw [hlist] at hx
   obtain ⟨i, hi', rfl⟩ := List.mem_iff_getElem.1 hx
   rw [List.length_set] at hi'
   by_cases hij : j = i
   ·
    subst hij
    rw [List.getElem_set_self]
    exact ⟨a, ha, rfl, if_pos rfl⟩
   ·
    rw [List.getElem_set_ne hij]
    obtain ⟨y, y1, y2, y3⟩ := h3 _ (List.getElem_mem hi')
    refine ⟨y, y1, y2, ?_⟩
    refine (if_neg ?_).trans y3
    ·
     intro e
     obtain ⟨_, he0⟩ := List.getElem?_eq_some_iff.1 g2
     have hk2 : es.toList[i].key = enc a := by rw [y2, e]
     have hk3 : es.toList[j].key = enc a := by rw [he0]; exact g3
     rcases Nat.lt_or_gt_of_ne hij with h | h
     ·
      exact List.pairwise_iff_getElem.1 hp j i hjl hi' h (hk3.trans hk2.symm)
     ·
      exact List.pairwise_iff_getElem.1 hp i j hi' hjl h (hk2.trans hk3.symm)
  ·
   rw [hlist]
   have : (es.toList.map (·.key)).Pairwise (· ≠ ·) := List.pairwise_map.2 hp
   have h2 : (es.toList.set j { e0 with key := enc a, val := v }).map (·.key) = es.toList.map (·.key) := by
    rw [List.map_set]
    apply List.ext_getElem
    ·
     simp
    ·
     intro i q1 q2
     by_cases hij : j = i
     ·
      subst hij
      obtain ⟨_, he0⟩ := List.getElem?_eq_some_iff.1 g2
      rw [List.getElem_set_self, List.getElem_map, he0]
      exact g3.symm
     ·
      rw [List.getElem_set_ne hij]
   have h5 : ((es.toList.set j { e0 with key := enc a, val := v }).map (·.key)).Pairwise (· ≠ ·) := by rw [h2]; exact this
   exact List.pairwise_map.1 h5
  ·
   have self : ∃ e ∈ (es.modify j (fun e' => { e' with key := enc a, val := v })).toList, e.key = enc a := by
    rw [hlist]
    exact ⟨_, List.mem_set hjl _, rfl⟩
   by_cases hxa : x = a
   ·
    subst hxa
    exact ⟨ha, self⟩
   ·
    replace hx : f x = some u := (if_neg hxa).symm.trans hx
    obtain ⟨y1, e, y2, y3⟩ := h4 x u hx
    refine ⟨y1, e, ?_, y3⟩
    rw [hlist]
    obtain ⟨i, hi', rfl⟩ := List.mem_iff_getElem.1 y2
    have hij : j ≠ i := fun q => by
     subst q
     obtain ⟨_, he0⟩ := List.getElem?_eq_some_iff.1 g2
     exact hxa (hi _ _ (y3.symm.trans (by rw [he0]; exact g3)))
    have hq : es.toList[i] = (es.toList.set j { e0 with key := enc a, val := v })[i]'(by rw [List.length_set]; exact hi') := by rw [List.getElem_set_ne hij]
    rw [hq]
    exact List.getElem_mem _
theorem wpList_lookK {ops : Array Oper} {rest : List Oper} {o : Oper} {a : Act} {Q : Exit → Act → World → Prop} (hg : o.guard = none) (m x : Operand) (c : Bool) (hop : o.op = Op.lookup t m x c)
  (h : MapK enc ok w b n f) (ht : P.underlying t = some (.map k e)) {z : Value} (hz : (zeroValue e).run P w = .ok z w) (hm : a.eval m = .map (some b)) {y : A} (hy : ok y) (hx : a.eval x = enc y)
  (hK : wpList P ops Q rest (a.put o.dst (if c then .tuple #[(f y).getD z, .bool (f y).isSome] else (f y).getD z)) w) : wpList P ops Q (o :: rest) a w := by
 refine wpList_plain hg fun K' hK' => ?_
 have hrun := h.look K hi ht hz hy c
 unfold Oper.wp
 simp [execOp, hop, hm, hx, Result.andThen]
 rw [hrun]
 exact hK' _ _ hK
theorem wpList_putK [DecidableEq A] {ops : Array Oper} {rest : List Oper} {o : Oper} {a : Act} {Q : Exit → Act → World → Prop} (hg : o.guard = none) (m x y : Operand) (hop : o.op = Op.mapUpdate t m x y ∨ o.op = Op.insert t m x y)
  (h : MapK enc ok w b n f) (ht : P.underlying t = some (.map k e)) (hm : a.eval m = .map (some b)) {u : A} (hu : ok u) (hx : a.eval x = enc u) {v : Value} (hy : a.eval y = v)
  (hK : ∀ w', MapK enc ok w' b (n + 1) (fun x => if x = u then some v else f x) → w.grownBy w' (some b) → w'.heap.size = w.heap.size → wpList P ops Q rest (a.put o.dst undef) w') : wpList P ops Q (o :: rest) a w := by
 refine wpList_plain hg fun K' hK' => ?_
 obtain ⟨w', hrun, h1, h2, h3⟩ := h.put K hi ht hu v
 unfold Oper.wp
 rcases hop with hop | hop
 ·
  simp [execOp, hop, hm, hx, hy, hrun, Result.andThen]
  exact hK' _ _ (hK w' h1 h2 h3)
 ·
  simp [execOp, hop, hm, hx, hy, hrun, Result.andThen]
  exact hK' _ _ (hK w' h1 h2 h3)
end
end Tryst
namespace Go.Proofs.YtmlbdblnmbmnpaaGreatDoor
open Go.RowKit Tryst
set_option maxHeartbeats 400000
set_option maxRecDepth 20000
def encL (s : Nat × Nat) : Value := .agg #[.int .i64 (s.1 : Int), .int .i64 (s.2 : Int)]
def okL (s : Nat × Nat) : Prop := s.1 ≤ 1000000000 ∧ s.2 ≤ 1000000000
def cellsL (s : Nat × Nat) : List Value := [.int .i64 (s.1 : Int), .int .i64 (s.2 : Int)]
theorem encL_inj (a b : Nat × Nat) (h : encL a = encL b) : a = b := by
 simp only [encL, Value.agg.injEq, Array.mk.injEq, List.cons.injEq, Value.int.injEq, true_and, and_true] at h
 exact Prod.ext (by omega) (by omega)
theorem checkL (em : Bool) (a b : Int) (w : World) : (Instr.checkKey em 10000 140 (.agg #[.int .i64 a, .int .i64 b])).run Tryz.prog w = .ok () w := by
 kernel_rfl
theorem structL : Tryz.prog.underlying 140 = some (.struct (Tryz.prog.fieldsOf 140)) := by kernel_rfl
theorem equalL (a b c d : Int) (w : World) : (Op.equal 140 (.agg #[.int .i64 a, .int .i64 b]) (.agg #[.int .i64 c, .int .i64 d])).run Tryz.prog w = .ok ((a == c) && (b == d)) w := by
 show (Op.equalIn 10000 140 _ _).run Tryz.prog w = _
 rw [run_equalIn_struct w 9999 140 _ _ structL (by kernel_rfl)]
 go_simp
 by_cases h1 : a = c <;> by_cases h2 : b = d <;> simp [h1, h2]
theorem keyL : RawKey Tryz.prog 140 (fun v => ∃ s, okL s ∧ v = encL s) := by
 refine .of_equal structL ?_ ?_ ?_
 ·
  rintro w em v ⟨s, _, rfl⟩
  exact checkL em _ _ w
 ·
  rintro w a b ⟨s, _, rfl⟩ ⟨u, _, rfl⟩
  refine ⟨_, equalL _ _ _ _ w, ?_⟩
  simp [encL]
 ·
  rintro v ⟨s, _, rfl⟩
  simp [encL, Instr.sameBits]
def cellsW (l : List (Nat × Nat)) : List (List Value) := l.map cellsL
theorem cellsW_len (l : List (Nat × Nat)) : ∀ x ∈ cellsW l, x.length = 2 := by
 intro x hx
 obtain ⟨s, _, rfl⟩ := List.mem_map.1 hx
 rfl
theorem leftT : SliceOf Tryz.prog 142 140 2 16 := .mk' Tryz.underlying142 (z := .agg #[.int .i64 0, .int .i64 0]) (by kernel_rfl) rfl (by decide) (by decide)
def unitF (met : Nat → Nat → Bool) : Nat × Nat → Option Value := fun s => if met s.1 s.2 = true then some (.agg #[]) else none
theorem wpList_lookL {ops : Array Oper} {rest : List Oper} {o : Oper} {a : Act} {Q : Exit → Act → World → Prop} {w : World} {mb n : Nat} {met : Nat → Nat → Bool} (hg : o.guard = none) (m x : Operand) (hop : o.op = Op.lookup 141 m x true)
  (h : MapK encL okL w mb n (unitF met)) (hm : a.eval m = .map (some mb)) {i j : Nat} (hy : okL (i, j)) (hx : a.eval x = .agg #[.int .i64 (i : Int), .int .i64 (j : Int)])
  (hK : wpList Tryz.prog ops Q rest (a.put o.dst (.tuple #[.agg #[], .bool (met i j)])) w) : wpList Tryz.prog ops Q (o :: rest) a w := by
 refine wpList_lookK keyL encL_inj hg m x true hop h Tryz.underlying141 (z := .agg #[]) (by kernel_rfl) hm hy hx ?_
 have e1 : ((unitF met (i, j)).getD (.agg #[])) = .agg #[] := by unfold unitF; split <;> rfl
 have e2 : (unitF met (i, j)).isSome = met i j := by unfold unitF; cases met i j <;> rfl
 rw [if_pos rfl, e1, e2]
 exact hK
/-- what the loop holds in memory: the boxes M (the map mb) and K (what is to do) -/
structure MS (w : World) (M K mb : Nat) (met : Nat → Nat → Bool) (work : List (Nat × Nat)) (W : World) : Prop where
 bel : Below w.heap.size w W
 hM : W.heap[M]? = some (.cells #[.map (some mb)] 141 (0, 0))
 hK : ∃ v, W.heap[K]? = some (.cells #[v] 142 (0, 0)) ∧ ROwn 140 2 W w.heap.size v (cellsW work)
 map : ∃ n, MapK encL okL W mb n (unitF met)
 lM : w.heap.size ≤ M
 lK : w.heap.size ≤ K
 lm : w.heap.size ≤ mb
theorem cell_of {W : World} {b : Nat} {v : Value} {T : TypeId} (h : W.heap[b]? = some (.cells #[v] T (0, 0))) : W.cell? ⟨b, 0, none⟩ = some v ∧ W.frozen? ⟨b, 0, none⟩ = false ∧ b < W.heap.size := by
 refine ⟨?_, ?_, (Array.getElem?_eq_some_iff.1 h).1⟩
 ·
  simp [World.cell?, h]
 ·
  simp [World.frozen?, h]
theorem MS.alloc {w : World} {M K mb : Nat} {met : Nat → Nat → Bool} {work : List (Nat × Nat)} {W : World} (h : MS w M K mb met work W) (o : Obj) : MS w M K mb met work (W.alloc o) := by
 obtain ⟨h1, h2, ⟨v, h3, h4⟩, ⟨n, h5⟩, h7, h8, h9⟩ := h
 have hb : ∀ {k : Nat} {x : Obj}, W.heap[k]? = some x → (W.alloc o).heap[k]? = some x := fun hk => (Below.heap_alloc _ _ _ (Array.getElem?_eq_some_iff.1 hk).1).trans hk
 exact ⟨balloc o h1, hb h2, ⟨v, hb h3, h4.alloc o⟩, ⟨n, h5.grow (balloc o (.refl _ _))⟩, h7, h8, h9⟩
theorem MS.neM {w : World} {M K mb : Nat} {met : Nat → Nat → Bool} {work : List (Nat × Nat)} {W : World} (h : MS w M K mb met work W) : M ≠ W.heap.size := by
 have := (Array.getElem?_eq_some_iff.1 h.hM).1
 omega
theorem MS.neK {w : World} {M K mb : Nat} {met : Nat → Nat → Bool} {work : List (Nat × Nat)} {W : World} (h : MS w M K mb met work W) : K ≠ W.heap.size := by
 obtain ⟨v, h1, _⟩ := h.hK
 have := (Array.getElem?_eq_some_iff.1 h1).1
 omega
theorem map_ne {A : Type} {enc : A → Value} {ok : A → Prop} {w : World} {b n : Nat} {f : A → Option Value} (h : MapK enc ok w b n f) {g : Nat} {cur : Array Value} {T : TypeId} {z : Nat × Nat} (hc : w.heap[g]? = some (.cells cur T z)) : g ≠ b := by
 rintro rfl
 obtain ⟨es, c, h1, _⟩ := h
 rw [h1] at hc
 cases hc
theorem map_ne_cell {A : Type} {enc : A → Value} {ok : A → Prop} {w : World} {b n : Nat} {f : A → Option Value} (h : MapK enc ok w b n f) {g o : Nat} {u : Value} (hc : w.cell? ⟨g, o, none⟩ = some u) : g ≠ b := by
 rintro rfl
 obtain ⟨es, c, h1, _⟩ := h
 simp [World.cell?, h1] at hc
theorem MS.put {w : World} {M K mb : Nat} {met : Nat → Nat → Bool} {work : List (Nat × Nat)} {Z Z2 : World} (h : MS w M K mb met work Z) (s : Nat × Nat) {n : Nat} (hm : MapK encL okL Z2 mb n (fun x => if x = s then some (.agg #[]) else unitF met x)) (hg : Z.grownBy Z2 (some mb)) : MS w M K mb (setM met s) work Z2 := by
 obtain ⟨h1, h2, ⟨v, h3, h4⟩, ⟨n0, h5⟩, h7, h8, h9⟩ := h
 have hk : ∀ {k : Nat} {cur : Array Value} {T : TypeId} {z : Nat × Nat}, Z.heap[k]? = some (.cells cur T z) → Z2.heap[k]? = some (.cells cur T z) := fun hc => (hg.block _ (Array.getElem?_eq_some_iff.1 hc).1 (by simpa using map_ne h5 hc)).trans hc
 refine ⟨h1.grown hg (by have := h1.size; omega) (fun j hj => by cases hj; exact h9), hk h2, ⟨v, hk h3, ?_⟩, ⟨n, hm.congr fun x => ?_⟩, h7, h8, h9⟩
 ·
  refine own_stays h4 fun A m c hv => ?_
  obtain ⟨cur, hc⟩ := h4.typed A m c hv
  exact (hk hc).trans hc.symm
 ·
  obtain ⟨i, j⟩ := x
  unfold unitF setM
  by_cases e : (i, j) = s
  ·
   simp [e]
  ·
   simp [e]
theorem set_one {W : World} {b : Nat} {v u : Value} {T : TypeId} (h : W.heap[b]? = some (.cells #[v] T (0, 0))) : (W.setCell ⟨b, 0, none⟩ u).heap[b]? = some (.cells #[u] T (0, 0)) := by
 simp [World.setCell, Array.getElem?_modify, h]
theorem MS.push {w : World} {M K mb : Nat} {met : Nat → Nat → Bool} {work work' : List (Nat × Nat)} {Z Z3 : World} {v v3 : Value} (h : MS w M K mb met work Z) (hk : Z.heap[K]? = some (.cells #[v] 142 (0, 0))) (hv : ROwn 140 2 Z w.heap.size v (cellsW work))
  (ho3 : ROwn 140 2 Z3 w.heap.size v3 (cellsW work')) (hb3 : Below w.heap.size Z Z3) (hs3 : ∀ k, k < Z.heap.size → Away v k → Z3.heap[k]? = Z.heap[k]?) : MS w M K mb met work' (Z3.setCell ⟨K, 0, none⟩ v3) := by
 obtain ⟨h1, h2, _, ⟨n0, h5⟩, h7, h8, h9⟩ := h
 have hM3 : Z3.heap[M]? = some (.cells #[.map (some mb)] 141 (0, 0)) := (hs3 M (Array.getElem?_eq_some_iff.1 h2).1 (typed_ne hv h2 (by decide))).trans h2
 have hK3 : Z3.heap[K]? = some (.cells #[v] 142 (0, 0)) := (hs3 K (Array.getElem?_eq_some_iff.1 hk).1 (typed_ne hv hk (by decide))).trans hk
 have hMK : M ≠ K := by
  rintro rfl
  rw [h2] at hk
  simp at hk
 have hKm : K ≠ mb := map_ne h5 hk
 have hmv : Away v mb := fun A m c hv' hb => by
  obtain ⟨cur, hc⟩ := hv.typed A m c hv'
  exact map_ne h5 hc hb
 have h53 : MapK encL okL Z3 mb n0 (unitF met) := h5.of_block (hs3 mb h5.lt hmv)
 refine ⟨(h1.trans hb3).setCell (p := ⟨K, 0, none⟩) h8 _, (Below.heap_setCell _ _ _ _ hMK).trans hM3, ⟨v3, set_one hK3, own_setCell_off ho3 _ (typed_ne ho3 hK3 (by decide))⟩, ⟨n0, h53.away hKm _⟩, h7, h8, h9⟩
/-- a call of the closure leaves all other blocks as they are -/
def KeepB (W : World) (K mb : Nat) (W' : World) : Prop := ∀ k, k < W.heap.size → k ≠ K → k ≠ mb → (∀ v, W.heap[K]? = some (.cells #[v] 142 (0, 0)) → Away v k) → W'.heap[k]? = W.heap[k]?
theorem KeepB.of_below {W W' : World} {K mb : Nat} (h : Below W.heap.size W W') : KeepB W K mb W' := fun k hk _ _ _ => h.block k hk
theorem add_c (w : World) (M K mb : Nat) (met : Nat → Nat → Bool) (work : List (Nat × Nat)) (s : Nat × Nat) (hs : okL s) (W : World) (hW : MS w M K mb met work W) (hn : work.length ≤ 1000000) :
  Calls Tryz.prog 107 #[encL s, .pointer (some ⟨M, 0, none⟩), .pointer (some ⟨K, 0, none⟩)] W fun e W' => e = .returned (.tuple #[]) ∧ MS w M K mb (addM (met, work) s).1 (addM (met, work) s).2 W' ∧ KeepB W K mb W' := by
 have HS := Lib.hid hs
 have HW := Lib.hid hW
 obtain ⟨a, b⟩ := s
 unfold encL
 simp only
 cases hm : met a b with
 | true =>
  have e : addM (met, work) (a, b) = (met, work) := by unfold addM; rw [if_pos hm]
  rw [e]
  clear e
  go_enter Tryz.func107, Tryz.ntmps107
  go_upto_region 1 with fail
  refine wp_genC (fun Y => Hid (Below W.heap.size W Y) ∧ Hid (MS w M K mb met work Y) ∧ Hid (Y.cell? ⟨W.heap.size, 0, none⟩ = some (.int .i64 (a : Int)) ∧ Y.cell? ⟨W.heap.size, 1, none⟩ = some (.int .i64 (b : Int)) ∧ W.heap.size < Y.heap.size) ∧ M ≠ W.heap.size ∧ K ≠ W.heap.size) ⟨balloc _ (.refl _ _), HW.out.alloc _, ⟨by simp [go_sem], by simp [go_sem], by simp⟩, HW.out.neM, HW.out.neK⟩ ?_
  rintro Y ⟨HBY, HY, HX, hMB, hKB⟩
  generalize W.heap.size = B at HX hMB hKB
  obtain ⟨x0, x1, x2⟩ := HX.out
  obtain ⟨m0, m1, m2⟩ := cell_of HY.out.hM
  obtain ⟨n, hmp⟩ := HY.out.map
  have HMP := Lib.hid hmp
  clear hW hmp
  go_wp2_with (at_lookup; refine wpList_lookL rfl _ _ rfl HMP.out rfl HS.out rfl ?_)
  go_end0
  exact ⟨rfl, HY.out.alloc _, .of_below (balloc _ HBY.out)⟩
 | false =>
  have e : addM (met, work) (a, b) = (setM met (a, b), work ++ [(a, b)]) := by unfold addM; rw [if_neg (by simp [hm])]
  rw [e]
  clear e
  go_enter Tryz.func107, Tryz.ntmps107
  go_upto_region 1 with fail
  refine wp_genC (fun Y => Hid (Below W.heap.size W Y) ∧ Hid (MS w M K mb met work Y) ∧ Hid (Y.cell? ⟨W.heap.size, 0, none⟩ = some (.int .i64 (a : Int)) ∧ Y.cell? ⟨W.heap.size, 1, none⟩ = some (.int .i64 (b : Int)) ∧ W.heap.size < Y.heap.size) ∧ M ≠ W.heap.size ∧ K ≠ W.heap.size) ⟨balloc _ (.refl _ _), HW.out.alloc _, ⟨by simp [go_sem], by simp [go_sem], by simp⟩, HW.out.neM, HW.out.neK⟩ ?_
  rintro Y ⟨HBY, HY, HX, hMB, hKB⟩
  generalize W.heap.size = B at HX hMB hKB
  obtain ⟨x0, x1, x2⟩ := HX.out
  obtain ⟨m0, m1, m2⟩ := cell_of HY.out.hM
  obtain ⟨n, hmp⟩ := HY.out.map
  have HMP := Lib.hid hmp
  clear hW hmp
  go_upto_region 3 with (at_lookup; refine wpList_lookL rfl _ _ rfl HMP.out rfl HS.out rfl ?_)
  refine wp_genC (fun Z => Hid (Below W.heap.size W Z) ∧ Hid (MS w M K mb met work Z) ∧ Hid (Z.cell? ⟨B, 0, none⟩ = some (.int .i64 (a : Int)) ∧ Z.cell? ⟨B, 1, none⟩ = some (.int .i64 (b : Int)) ∧ B < Z.heap.size)) ⟨balloc _ HBY.out, HY.out.alloc _, ⟨by rw [(balloc (w := Y) (.cells #[] 136) (.refl _ _)).cell (p := ⟨B, 0, none⟩) x2]; exact x0, by rw [(balloc (w := Y) (.cells #[] 136) (.refl _ _)).cell (p := ⟨B, 1, none⟩) x2]; exact x1, by simp; omega⟩⟩ ?_
  rintro Z ⟨HBZ, HZ, HX2⟩
  clear x0 x1 x2 m0 m1 m2 HMP HX HY HBY
  obtain ⟨x0, x1, x2⟩ := HX2.out
  obtain ⟨m0, m1, m2⟩ := cell_of HZ.out.hM
  obtain ⟨n2, hmp⟩ := HZ.out.map
  have HMP := Lib.hid hmp
  clear hmp
  go_upto_region 4 with (refine wpList_putK keyL encL_inj rfl _ _ _ (.inl rfl) HMP.out Tryz.underlying141 rfl HS.out rfl (v := .agg #[]) rfl ?_; intro Z2 hm2 hg2 hz2)
  have HZ2 := Lib.hid (HZ.out.put (a, b) hm2 hg2)
  have hBm := map_ne_cell HMP.out x0
  have y0 : Z2.cell? ⟨B, 0, none⟩ = some (.int .i64 (a : Int)) := (World.cell?_of_block (w := Z) (a := ⟨B, 0, none⟩) (hg2.block B x2 (by simpa using hBm))).trans x0
  have y1 : Z2.cell? ⟨B, 1, none⟩ = some (.int .i64 (b : Int)) := (World.cell?_of_block (w := Z) (a := ⟨B, 1, none⟩) (hg2.block B x2 (by simpa using hBm))).trans x1
  have y2 : B < Z2.heap.size := by omega
  have HG2 := Lib.hid hg2
  clear hm2 hg2 hz2 HX2 x0 x1 x2 m0 m1 m2 HMP HZ hBm
  obtain ⟨v, hk, ho⟩ := HZ2.out.hK
  obtain ⟨k0, k1, k2⟩ := cell_of hk
  have HO := Lib.hid ho
  have hwz : w.heap.size ≤ Z2.heap.size := HZ2.out.bel.size
  have hln : (cellsW work).length = work.length := by simp [cellsW]
  have HK := Lib.hid hk
  have HAK := Lib.hid (typed_ne ho hk (by decide))
  clear ho hk
  go_wp2_with (at_builtin; refine wpList_appR leftT rfl _ _ rfl w.heap.size v (cellsW work) work.length hln rfl (HO.out.alloc _) (cellsL (a, b)) rfl (by intro u hu; simp [cellsL] at hu; rcases hu with rfl | rfl <;> rfl) Z2.heap.size rfl (by intro j hj; rcases j with _ | _ | j <;> first | (simp [go_sem, cellsL]; done) | omega) (by omega) (by simp; omega) ?_; intro v3 Z3 ho3 hb3 hs3; obtain ⟨a3, c3, hv3, _⟩ := ho3.row (by intro x hx; rcases List.mem_append.1 hx with hx | hx; exact cellsW_len _ x hx; rw [List.mem_singleton] at hx; subst hx; rfl) (by decide); subst hv3; have hk3 := (hs3 K (by simp; omega) HAK.out).trans ((Below.heap_alloc _ _ _ k2).trans HK.out); obtain ⟨p0, p1, p2⟩ := cell_of hk3; have HO3 := Lib.hid ho3; have HB3 := Lib.hid hb3; have HS3 := Lib.hid hs3; clear ho3 hb3 hs3)
  go_end0
  refine ⟨rfl, ?_⟩
  have hl : (cellsW work ++ [cellsL (a, b)]).length = work.length + 1 := by simp [cellsW]
  have ho := HO3.out
  rw [hl, show cellsW work ++ [cellsL (a, b)] = cellsW (work ++ [(a, b)]) by simp [cellsW]] at ho
  refine ⟨(HZ2.out.alloc _).push ((Below.heap_alloc _ _ _ k2).trans HK.out) (HO.out.alloc _) ho HB3.out HS3.out, fun k q1 q2 q3 q4 => ?_⟩
  have e1 : Z.heap[k]? = W.heap[k]? := HBZ.out.block k q1
  have qz : k < Z.heap.size := Nat.lt_of_lt_of_le q1 HBZ.out.size
  have e2 : Z2.heap[k]? = Z.heap[k]? := HG2.out.block k qz (by simpa using q3)
  have qz2 : k < Z2.heap.size := Nat.lt_of_lt_of_le qz HG2.out.size
  have hKW : K < W.heap.size := by
   obtain ⟨_, h, _⟩ := HW.out.hK
   exact (Array.getElem?_eq_some_iff.1 h).1
  have hKm : K ≠ mb := by
   obtain ⟨_, h⟩ := HW.out.map
   obtain ⟨_, h2, _⟩ := HW.out.hK
   exact map_ne h h2
  have hv : W.heap[K]? = some (.cells #[v] 142 (0, 0)) := by
   rw [← HBZ.out.block K hKW, ← HG2.out.block K (Nat.lt_of_lt_of_le hKW HBZ.out.size) (by simpa using hKm)]
   exact HK.out
  exact (Below.heap_setCell _ _ _ _ q2).trans ((HS3.out k (by simp; omega) (q4 v hv)).trans ((Below.heap_alloc _ _ _ qz2).trans (e2.trans e1)))
theorem add_d (w : World) (M K mb : Nat) (met : Nat → Nat → Bool) (work : List (Nat × Nat)) (a b : Nat) (x y : Int) (hx : x = (a : Int)) (hy : y = (b : Int)) (ha : a ≤ 1000) (hb : b ≤ 1000) (W : World) (hW : MS w M K mb met work W) (hn : work.length ≤ 1000000) :
  Calls Tryz.prog 107 #[.agg #[.int .i64 x, .int .i64 y], .pointer (some ⟨M, 0, none⟩), .pointer (some ⟨K, 0, none⟩)] W fun e W' => e = .returned (.tuple #[]) ∧ MS w M K mb (addM (met, work) (a, b)).1 (addM (met, work) (a, b)).2 W' ∧ KeepB W K mb W' := by
 subst hx hy
 exact add_c w M K mb met work (a, b) ⟨by show a ≤ _; omega, by show b ≤ _; omega⟩ W hW hn
end Go.Proofs.YtmlbdblnmbmnpaaGreatDoor
namespace Tryst
open Go Go.RowKit
/-- the least number of which something holds (0, if there is none) -/
theorem least_ex {R : Nat → Prop} : ∀ (n : Nat), R n → ∃ m, R m ∧ ∀ k, R k → m ≤ k := by
 intro n
 induction n using Nat.strongRecOn with
 | _ n ih =>
  intro hn
  by_cases h : ∃ m, m < n ∧ R m
  ·
   obtain ⟨m, h1, h2⟩ := h
   exact ih m h1 h2
  ·
   exact ⟨n, hn, fun k hk => Nat.le_of_not_lt fun hlt => h ⟨k, hlt, hk⟩⟩
noncomputable def least (R : Nat → Prop) : Nat := open Classical in if h : ∃ m, R m ∧ ∀ k, R k → m ≤ k then Classical.choose h else 0
theorem least_spec {R : Nat → Prop} {n : Nat} (h : R n) : R (least R) ∧ ∀ k, R k → least R ≤ k := by
 have hx := least_ex n h
 unfold least
 rw [dif_pos hx]
 exact Classical.choose_spec hx
theorem own_shrink {e : TypeId} {size n cap g m : Nat} {w : World} {base : Nat} {xs : List Value} (h : w.ownsRow base e size (.slice (some ⟨g, 0, none⟩) n cap) n xs) (hm : m ≤ n) : w.ownsRow base e size (.slice (some ⟨g, 0, none⟩) m cap) m (xs.take (m * size)) := by
 obtain ⟨h1, h2⟩ := h
 have hle : m * size ≤ n * size := Nat.mul_le_mul_right size hm
 rcases h2 with ⟨h2, _⟩ | ⟨g', cap', cur, h2, h3, h4, h5, h6, h7, h8⟩
 ·
  cases h2
 ·
  cases h2
  refine ⟨by rw [List.length_take]; omega, .inr ⟨g, cap, cur, rfl, h3, h4, by omega, h6, h7, ?_⟩⟩
  rw [← h8, List.take_take, Nat.min_eq_left hle]
theorem flatten_take {k : Nat} : ∀ {l : List (List Value)} (m : Nat), (∀ x ∈ l, x.length = k) → (l.take m).flatten = l.flatten.take (m * k)
 | [], m, _ => by simp
 | x :: l, 0, _ => by simp
 | x :: l, m + 1, h => by
  have hx := h x List.mem_cons_self
  have e1 : x.take ((m + 1) * k) = x := List.take_of_length_le (by rw [Nat.add_mul]; omega)
  have e2 : (m + 1) * k - x.length = m * k := by rw [Nat.add_mul]; omega
  rw [List.take_succ_cons, List.flatten_cons, List.flatten_cons, flatten_take m (fun y hy => h y (List.mem_cons_of_mem _ hy)), List.take_append, e1, e2]
theorem ROwn.shrink {e : TypeId} {k g c : Nat} {w : World} {base : Nat} {l : List (List Value)} (h : ROwn e k w base (.slice (some ⟨g, 0, none⟩) l.length c) l) (hl : ∀ x ∈ l, x.length = k) {m : Nat} (hm : m ≤ l.length) : ROwn e k w base (.slice (some ⟨g, 0, none⟩) m c) (l.take m) := by
 have h1 := own_shrink (m := m) h hm
 unfold ROwn
 rw [List.length_take, Nat.min_eq_left hm, flatten_take m hl]
 exact h1
end Tryst
namespace Go.Proofs.YtmlbdblnmbmnpaaGreatDoor
open Go.RowKit Tryst
set_option maxHeartbeats 400000
set_option maxRecDepth 20000
theorem MS.grow {w : World} {M K mb : Nat} {met : Nat → Nat → Bool} {work : List (Nat × Nat)} {W W' : World} (h : MS w M K mb met work W) (hb : Below W.heap.size W W') : MS w M K mb met work W' := by
 obtain ⟨h1, h2, ⟨v, h3, h4⟩, ⟨n, h5⟩, h7, h8, h9⟩ := h
 have hk : ∀ {k : Nat} {x : Obj}, W.heap[k]? = some x → W'.heap[k]? = some x := fun hk => (hb.block _ (Array.getElem?_eq_some_iff.1 hk).1).trans hk
 exact ⟨bstep hb h1, hk h2, ⟨v, hk h3, h4.grow hb⟩, ⟨n, h5.grow hb⟩, h7, h8, h9⟩
/-- the last one that is to do -/
theorem MS.top {w : World} {M K mb : Nat} {met : Nat → Nat → Bool} {w0 : List (Nat × Nat)} {l : Nat × Nat} {W : World} (h : MS w M K mb met (w0 ++ [l]) W) :
  ∃ g c, W.heap[K]? = some (.cells #[.slice (some ⟨g, 0, none⟩) (w0.length + 1) c] 142 (0, 0)) ∧ W.cell? ⟨g, w0.length * 2, none⟩ = some (.int .i64 (l.1 : Int)) ∧ W.cell? ⟨g, w0.length * 2 + 1, none⟩ = some (.int .i64 (l.2 : Int)) ∧ g < W.heap.size ∧
   w0.length + 1 ≤ c ∧ MS w M K mb met w0 (W.setCell ⟨K, 0, none⟩ (.slice (some ⟨g, 0, none⟩) w0.length c)) := by
 obtain ⟨v, hk, ho⟩ := h.hK
 have hlen : (cellsW (w0 ++ [l])).length = w0.length + 1 := by simp [cellsW]
 obtain ⟨g, c, rfl, hg1, hg2, _, hc, _⟩ := ho.block (cellsW_len _) (by omega)
 rw [hlen] at hk ho
 have hi : w0.length < (cellsW (w0 ++ [l])).length := by omega
 have hget : (cellsW (w0 ++ [l]))[w0.length] = cellsL l := by simp [cellsW]
 have h0 := hc w0.length hi 0 (by omega)
 have h1 := hc w0.length hi 1 (by omega)
 rw [hget] at h0 h1
 have hcap : w0.length + 1 ≤ c := by
  rcases ho.2 with ⟨h2, _⟩ | ⟨g', cap', cur, h2, h3, h4, h5, _⟩
  ·
   cases h2
  ·
   simp only [Value.slice.injEq] at h2
   omega
 refine ⟨g, c, hk, h0, h1, hg2, hcap, ?_⟩
 refine h.push hk (by rw [← hlen] at ho; rw [hlen] at ho; exact ho) ?_ (.refl _ _) (fun _ _ _ => rfl)
 have h2 := ROwn.shrink (m := w0.length) (by rw [hlen]; exact ho) (cellsW_len _) (by omega)
 have h3 : (cellsW (w0 ++ [l])).take w0.length = cellsW w0 := by
  unfold cellsW
  rw [← List.map_take, List.take_left]
 rw [h3] at h2
 exact h2
theorem split_c (s : ByteArray) (hs : s.size ≤ 1000000000) (w : World) (hM : MaxW w) : Calls Tryz.prog 106 #[.string s, .string ⟨#[46]⟩] w fun e w' => ∃ l : List ByteArray, e = .returned (.slice (some ⟨w.heap.size, 0, none⟩) l.length l.length) ∧ l.map (fun x => x.data.toList) = dots s.data.toList ∧ Strs w' (some ⟨w.heap.size, 0, none⟩) l ∧ Below w.heap.size w w' := by
 obtain ⟨⟨m, hm⟩, _⟩ := hM
 refine (Tryz.strings_Split s ⟨#[46]⟩ m w (by omega) hm (by decide)).mono ?_
 rintro e w' ⟨rfl, rfl⟩
 have h1 := split_dots s
 have h2 := congrArg List.length h1
 rw [List.length_map, split_len] at h2
 refine ⟨_, by rw [h2], h1, fun i hi => ?_, balloc _ (.refl _ _)⟩
 refine ⟨w.heap.size, 0, rfl, by simp, ?_⟩
 simp [go_sem, List.getElem?_eq_getElem hi]
def meetsB (g t : List UInt8) : Bool := globB g && (topicB t && meetsL (dots g) (dots t))
theorem MS.awayB {w : World} {M K mb : Nat} {met : Nat → Nat → Bool} {work : List (Nat × Nat)} {W : World} (h : MS w M K mb met work W) (o : Obj) : ∀ u, (W.alloc o).heap[K]? = some (.cells #[u] 142 (0, 0)) → Away u W.heap.size := by
 intro u hu
 obtain ⟨v, h1, h2⟩ := h.hK
 rw [Below.heap_alloc _ _ _ (Array.getElem?_eq_some_iff.1 h1).1, h1] at hu
 simp only [Option.some.injEq, Obj.cells.injEq, Array.mk.injEq, List.cons.injEq, and_true] at hu
 obtain rfl : v = u := by simpa using hu
 intro A n c hv hb
 have := (h2.lt A.block (by rw [hv]; rfl)).2
 omega
theorem addM_len (x : (Nat → Nat → Bool) × List (Nat × Nat)) (s : Nat × Nat) : (addM x s).2.length ≤ x.2.length + 1 := by
 unfold addM
 split
 ·
  omega
 ·
  simp
/-- so far in the loop -/
def MeetR (w : World) (M K mb : Nat) (g t : List (List UInt8)) (n : Nat) (W : World) : Prop := ∃ met work, Hid (MS w M K mb met work W) ∧ Hid (MeetI g t met work) ∧ 2 * unmet g t met + work.length = n ∧ n ≤ 1000000
theorem unmet_le (g t : List (List UInt8)) (met : Nat → Nat → Bool) : unmet g t met ≤ (g.length + 1) * (t.length + 1) := by
 unfold unmet
 refine Nat.le_trans List.countP_le_length ?_
 have : ∀ n m : Nat, ((List.range n).flatMap fun i => (List.range m).map fun j => (i, j)).length = n * m := by
  intro n m
  induction n with
  | zero => simp
  | succ n ih => rw [List.range_succ, List.flatMap_append, List.length_append, ih, Nat.succ_mul]; simp
 rw [this]
 exact Nat.le_refl _
theorem globB_len {s : List UInt8} (h : globB s = true) : (dots s).length ≤ 8 := by
 unfold globB at h
 simp only [Bool.and_eq_true, decide_eq_true_eq] at h
 exact h.1.2
theorem topicB_len {s : List UInt8} (h : topicB s = true) : (dots s).length ≤ 8 := by
 unfold topicB at h
 simp only [Bool.and_eq_true, decide_eq_true_eq] at h
 exact h.1.2
theorem MS.first (w w5 : World) (h5 : MapK encL okL w5 w.heap.size (0 + 1) fun x => if x = (0, 0) then some (.agg #[]) else none) (hg : (w.alloc (.map #[] 0)).grownBy w5 (some w.heap.size)) (hz : w5.heap.size = (w.alloc (.map #[] 0)).heap.size) :
  MS w (w.heap.size + 1) (w.heap.size + 1 + 1 + 1) w.heap.size (fun i j => decide (i = 0 ∧ j = 0)) [(0, 0)] (((w5.alloc (.cells #[.map (some w.heap.size)] 141)).alloc (.cells #[.int .i64 0, .int .i64 0] 140)).alloc (.cells #[.slice (some ⟨w.heap.size + 1 + 1, 0, none⟩) 1 1] 142)) := by
 have hz5 : w5.heap.size = w.heap.size + 1 := by rw [hz]; simp
 have hb : Below w.heap.size w w5 := ((Below.refl w.heap.size w).alloc (Nat.le_refl _) _).grown hg (by simp) (fun j hj => by cases hj; exact Nat.le_refl _)
 refine ⟨balloc _ (balloc _ (balloc _ hb)), ?_, ⟨.slice (some ⟨w.heap.size + 1 + 1, 0, none⟩) 1 1, ?_, ?_⟩, ⟨0 + 1, ?_⟩, by omega, by omega, Nat.le_refl _⟩
 ·
  show (((w5.heap.push _).push _).push _)[w.heap.size + 1]? = _
  rw [Array.getElem?_push, if_neg (by simp; omega), Array.getElem?_push, if_neg (by simp; omega), Array.getElem?_push, if_pos (by omega)]
 ·
  show (((w5.heap.push _).push _).push _)[w.heap.size + 1 + 1 + 1]? = _
  rw [Array.getElem?_push, if_pos (by simp; omega)]
 ·
  refine ⟨rfl, .inr ⟨w.heap.size + 1 + 1, 1, #[.int .i64 0, .int .i64 0], rfl, by omega, ?_, Nat.le_refl _, by unfold maxLen; omega, rfl, rfl⟩⟩
  show (((w5.heap.push _).push _).push _)[w.heap.size + 1 + 1]? = _
  rw [Array.getElem?_push, if_neg (by simp; omega), Array.getElem?_push, if_pos (by simp; omega)]
 ·
  have hb2 : Below w5.heap.size w5 (((w5.alloc (.cells #[.map (some w.heap.size)] 141)).alloc (.cells #[.int .i64 0, .int .i64 0] 140)).alloc (.cells #[.slice (some ⟨w.heap.size + 1 + 1, 0, none⟩) 1 1] 142)) := balloc _ (balloc _ (balloc _ (.refl _ _)))
  refine (h5.grow hb2).congr fun x => ?_
  obtain ⟨i, j⟩ := x
  unfold unitF
  simp
set_option maxHeartbeats 4000000 in
theorem meets_c (s t : ByteArray) (hs : s.size ≤ 1000000) (ht : t.size ≤ 1000000) (w : World) (hM : MaxW w) : Calls Tryz.prog 83 #[.string s, .string t] w fun e w' => e = .returned (.bool (meetsB s.data.toList t.data.toList)) ∧ Below w.heap.size w w' := by
 have HM := Lib.hid hM
 have hg1 := glob_c s (by omega) w hM
 clear hM
 unfold meetsB
 cases hg : globB s.data.toList with
 | false =>
  rw [hg] at hg1
  simp only [Bool.false_and]
  go_enter Tryz.func83, Tryz.ntmps83
  go_wp2_with fail
  refine hg1.mono ?_
  rintro e w1 ⟨rfl, hb1⟩
  go_wp2_with fail
  go_ret
  exact ⟨rfl, hb1⟩
 | true =>
  rw [hg] at hg1
  simp only [Bool.true_and]
  have HT := Lib.hid (fun (W : World) (hM : MaxW W) => topic_c t (by omega) W hM)
  cases htp : topicB t.data.toList with
  | false =>
   rw [htp] at HT
   simp only [Bool.false_and]
   go_enter Tryz.func83, Tryz.ntmps83
   go_wp2_with fail
   refine hg1.mono ?_
   rintro e w1 ⟨rfl, hb1⟩
   go_wp2_with fail
   refine (HT.out _ (HM.out.grow hb1)).mono ?_
   rintro e w2 ⟨rfl, hb2⟩
   go_wp2_with fail
   go_ret
   exact ⟨rfl, bstep hb2 hb1⟩
  | true =>
   rw [htp] at HT
   simp only [Bool.true_and]
   go_enter Tryz.func83, Tryz.ntmps83
   go_wp2_with fail
   refine hg1.mono ?_
   rintro e w1 ⟨rfl, hb1⟩
   go_wp2_with fail
   refine (HT.out _ (HM.out.grow hb1)).mono ?_
   rintro e w2 ⟨rfl, hb2⟩
   have HB2 := Lib.hid (bstep hb2 hb1)
   clear hb1 hb2 hg1 HT
   go_wp2_with fail
   refine (split_c s (by omega) w2 (HM.out.grow HB2.out)).mono ?_
   rintro e w3 ⟨l1, rfl, hl1, hs1, hb3⟩
   go_wp2_with fail
   refine (split_c t (by omega) w3 (HM.out.grow (bstep hb3 HB2.out))).mono ?_
   rintro e w4 ⟨l2, rfl, hl2, hs2, hb4⟩
   have HB4 := Lib.hid (bstep hb4 (bstep hb3 HB2.out))
   have HS1 := Lib.hid (hs1.grow hb4)
   have HS2 := Lib.hid hs2
   generalize w2.heap.size = B1 at HS1 ⊢
   generalize w3.heap.size = B2 at HS2 ⊢
   clear hs1 hs2 hb3 hb4 HB2
   have hmm := @run_makeMap Tryz.prog
   have HP0 := Lib.hid (MapK.made encL okL w4)
   go_upto_region 5 with (refine wpList_putK keyL encL_inj rfl _ _ _ (.inr rfl) HP0.out Tryz.underlying141 rfl (u := (0, 0)) ⟨by decide, by decide⟩ rfl (v := .agg #[]) rfl ?_; intro w5 hm5 hg5 hz5)
   go_upto_region 6 with fail
   have hms := MS.first w4 w5 hm5 hg5 hz5
   refine wp_genC (fun v => Hid (MS w4 (w4.heap.size + 1) (w4.heap.size + 1 + 1 + 1) w4.heap.size (fun i j => decide (i = 0 ∧ j = 0)) [(0, 0)] v)) hms ?_
   clear hms hm5 hg5 hz5 hmm HP0
   rintro w6 H6
   generalize w4.heap.size + 1 + 1 + 1 = K at H6 ⊢
   generalize w4.heap.size + 1 = M at H6 ⊢
   generalize w4.heap.size = mb at H6 ⊢
   have HF := Lib.hid (MeetI.first (g := dots s.data.toList) (t := dots t.data.toList))
   obtain ⟨N, hN⟩ : ∃ N, 2 * unmet (dots s.data.toList) (dots t.data.toList) (fun i j => decide (i = 0 ∧ j = 0)) + [((0 : Nat), (0 : Nat))].length = N := ⟨_, rfl⟩
   have hG8 : l1.length ≤ 8 := by rw [← List.length_map (f := fun x => x.data.toList), hl1]; exact globB_len hg
   have hT8 : l2.length ≤ 8 := by rw [← List.length_map (f := fun x => x.data.toList), hl2]; exact topicB_len htp
   have hL1 : (dots s.data.toList).length = l1.length := by rw [← hl1, List.length_map]
   have hL2 : (dots t.data.toList).length = l2.length := by rw [← hl2, List.length_map]
   have hN2 : N ≤ 1000000 := by
    have := unmet_le (dots s.data.toList) (dots t.data.toList) (fun i j => decide (i = 0 ∧ j = 0))
    rw [hL1, hL2] at this
    have h3 : (l1.length + 1) * (l2.length + 1) ≤ 9 * 9 := Nat.mul_le_mul (by omega) (by omega)
    simp only [List.length_singleton] at hN
    omega
   go_upto_region 7 with fail
   go_loopw [12] (fun i wr => ∃ n, MeetR w4 M K mb (dots s.data.toList) (dots t.data.toList) n wr) (fun i wr => least (fun n => MeetR w4 M K mb (dots s.data.toList) (dots t.data.toList) n wr))
   case atStart => exact ⟨N, _, _, H6, HF, hN, hN2⟩
   case round =>
    obtain ⟨n0, hn0⟩ := hrel
    obtain ⟨hn1, hn2⟩ := least_spec (R := fun n => MeetR w4 M K mb (dots s.data.toList) (dots t.data.toList) n wr) hn0
    generalize hn3 : least (fun n => MeetR w4 M K mb (dots s.data.toList) (dots t.data.toList) n wr) = n at hn1 hn2 ⊢
    clear hn0 hn2
    obtain ⟨met, work, HW, HI, hn4, hn5⟩ := hn1
    have HFIN : Hid (∀ (v : World) (w0 : List (Nat × Nat)) (l : Nat × Nat), work = w0 ++ [l] → MS w4 M K mb (roundM (dots s.data.toList) (dots t.data.toList) met w0 l).1 (roundM (dots s.data.toList) (dots t.data.toList) met w0 l).2 v → (∃ n, MeetR w4 M K mb (dots s.data.toList) (dots t.data.toList) n v) ∧ least (fun n => MeetR w4 M K mb (dots s.data.toList) (dots t.data.toList) n v) < n) := Lib.hid (fun v w0 l hw hv => by
     subst hw
     have h1 := round_less HI.out
     have h2 : MeetR w4 M K mb (dots s.data.toList) (dots t.data.toList) (2 * unmet (dots s.data.toList) (dots t.data.toList) (roundM (dots s.data.toList) (dots t.data.toList) met w0 l).1 + (roundM (dots s.data.toList) (dots t.data.toList) met w0 l).2.length) v := ⟨_, _, hv, HI.out.round, rfl, by omega⟩
     exact ⟨⟨_, h2⟩, by have := (least_spec (R := fun n => MeetR w4 M K mb (dots s.data.toList) (dots t.data.toList) n v) h2).2 _ h2; omega⟩)
    clear hn3
    rcases List.eq_nil_or_concat work with rfl | ⟨w0, l, rfl⟩
    ·
     obtain ⟨v, hk, ho⟩ := HW.out.hK
     obtain ⟨a, c, rfl, _⟩ := ho.row (cellsW_len _) (by decide)
     obtain ⟨k0, k1, k2⟩ := cell_of hk
     obtain ⟨m0, m1, m2⟩ := cell_of HW.out.hM
     have HO := Lib.hid ho
     have HK := Lib.hid hk
     simp only [cellsW, List.map_nil, List.length_nil] at k0
     obtain ⟨nn, hmp⟩ := HW.out.map
     have HMP := Lib.hid hmp
     clear ho hk hmp
     have HE := Lib.hid HI.out.last
     rw [hL1, hL2] at HE
     have HBW := Lib.hid (bstep HW.out.bel HB4.out)
     go_wp2_with (at_lookup; refine wpList_lookL rfl _ _ rfl HMP.out rfl (i := l1.length) (j := l2.length) ⟨by show l1.length ≤ _; omega, by show l2.length ≤ _; omega⟩ rfl ?_)
     go_ret
     exact ⟨ret_bool HE.out, balloc _ HBW.out⟩
    ·
     rw [List.concat_eq_append] at HW HI hn4 HFIN
     have HFIN := Lib.hid (fun v hv => HFIN.out v w0 l rfl hv)
     obtain ⟨g, c, hk, c0, c1, hgz, hcap, -⟩ := HW.out.top
     obtain ⟨k0, k1, k2⟩ := cell_of hk
     obtain ⟨i, j⟩ := l
     obtain ⟨m, hm⟩ : ∃ m, w0.length = m := ⟨_, rfl⟩
     rw [hm] at c0 c1 k0 hcap
     simp only at c0 c1
     have hmn : m + 1 ≤ 1000000 := by simp only [List.length_append, List.length_singleton] at hn4; omega
     have y1 : wrap64 (m : Int) = (m : Int) := IntWalk.wrap64_in _ (by omega)
     have HH := Lib.hid (And.intro hL1 (And.intro hL2 (And.intro hm (And.intro hn4 (And.intro hn5 (And.intro hl1 hl2))))))
     clear hk H6 HF hN hN2 hL1 hL2 hm hn4 hn5 hl1 hl2
     go_upto_region 8 with fail
     go_upto_region 9 with fail
     refine wp_genC (fun v => Hid (MS w4 M K mb met (w0 ++ [(i, j)]) v) ∧ Hid (v.cell? ⟨wr.heap.size, 0, none⟩ = some (.int .i64 (i : Int)) ∧ v.cell? ⟨wr.heap.size, 1, none⟩ = some (.int .i64 (j : Int)) ∧ wr.heap.size < v.heap.size) ∧ K ≠ wr.heap.size ∧ Hid (∀ u, v.heap[K]? = some (.cells #[u] 142 (0, 0)) → Away u wr.heap.size)) ⟨HW.out.alloc _, ⟨by simp [go_sem], by simp [go_sem], by simp⟩, HW.out.neK, HW.out.awayB _⟩ ?_
     rintro Y ⟨HY, HX, hKB, HAW⟩
     generalize wr.heap.size = B at HX hKB HAW ⊢
     clear hgz k0 k1 k2 HW c0 c1 hcap
     obtain ⟨g, c, hk, -, -, -, hcap, hpop⟩ := HY.out.top
     rw [HH.out.2.2.1] at hk hcap hpop
     obtain ⟨k0, k1, k2⟩ := cell_of hk
     have HPOP := Lib.hid hpop
     have hgB : g ≠ B := HAW.out _ hk _ _ _ rfl
     have hkp : (Y.setCell ⟨K, 0, none⟩ (.slice (some ⟨g, 0, none⟩) m c)).heap[K]? = some (.cells #[.slice (some ⟨g, 0, none⟩) m c] 142 (0, 0)) := set_one hk
     have HKP := Lib.hid hkp
     have HBM : B ≠ mb := by
      obtain ⟨_, h⟩ := HY.out.map
      exact map_ne_cell h HX.out.1
     clear hk hpop hkp HAW
     go_upto_region 10 with fail
     refine wp_genC (fun v => Hid (v.heap[K]? = some (.cells #[.slice (some ⟨g, 0, none⟩) m c] 142 (0, 0))) ∧ Hid (MS w4 M K mb met w0 v) ∧ Hid (v.cell? ⟨B, 0, none⟩ = some (.int .i64 (i : Int)) ∧ v.cell? ⟨B, 1, none⟩ = some (.int .i64 (j : Int)) ∧ B < v.heap.size)) ⟨HKP.out, HPOP.out, ⟨by rw [cell_setCell, if_neg (fun e => hKB e.1)]; exact HX.out.1, by rw [cell_setCell, if_neg (fun e => hKB e.1)]; exact HX.out.2.1, by simpa using HX.out.2.2⟩⟩ ?_
     rintro Z ⟨HKZ, HZ, HXZ⟩
     clear HKP HPOP HY k0 k1 k2 HX hcap
     obtain ⟨x0, x1, x2⟩ := HXZ.out
     obtain ⟨hi8, hj8⟩ : i ≤ l1.length ∧ j ≤ l2.length := by
      have := HI.out.inb i j (HI.out.wk (i, j) (by simp))
      rw [HH.out.1, HH.out.2.1] at this
      exact this
     by_cases hlt : i < l1.length
     ·
      obtain ⟨_, hs1⟩ := (HS1.out.grow HZ.out.bel).at hlt
      have hz1 : B1 < Z.heap.size := by
       obtain ⟨h, _⟩ := (HS1.out.grow HZ.out.bel).at hlt
       exact h
      rw [Nat.zero_add] at hs1
      go_upto_region 11 with fail
      refine Tryst2.wp_region_grows [.is (.slice (some ⟨B1, 0, none⟩) l1.length l1.length), .is (.pointer (some ⟨B, 0, none⟩)), .is (.int .i64 (i : Int)), .is (.pointer (some ⟨B1, i, none⟩)), .is (.string l1[i]), .is (.pointer (some ⟨B, 1, none⟩)), .is (.int .i64 (j : Int)), .is (.slice (some ⟨B2, 0, none⟩) l2.length l2.length), .is (.int .i64 (l2.length : Int)), .is (.bool (decide (j < l2.length))), .is (.string l1[i]), .is (.bool (decide (j < l2.length)))] (by kernel_rfl) (by kernel_rfl) ?obl ?fin
      case obl =>
       simp only [YA, YL, YO, YR, Op.operands, Call.operands]
       repeat' apply And.intro
       any_goals trivial
       all_goals (intro tv w' hg hold hd; (try simp at hold); obtain ⟨hcg, hfg, hsg⟩ := YG hg)
       all_goals first | (go_simp; done) | (go_simp; rw [if_neg (by omega)]; exact ⟨.refl _, rfl⟩) | (obtain ⟨⟨g, hvg, hgg, hcell⟩, _⟩ := hd; have hcell0 := hcell 0 (by decide); simp at hcell0; go_simp; done) 
      case fin =>
       intro tv w' hg hR
       simp only [YF, YL, YR] at hR
       obtain ⟨hcg, hfg, hsg⟩ := YG hg
       simp only [YP, YL, Act.put, hR]
       have HZ2 := Lib.hid (HZ.out.grow (Tryst2.Grow.below hg (.refl _ _)))
       have x0' := (hcg B 0 x2).trans x0
       have x1' := (hcg B 1 x2).trans x1
       have x2' : B < w'.heap.size := by omega
       have HKW : Hid (∀ u, w'.heap[K]? = some (.cells #[u] 142 (0, 0)) → Away u B) := Lib.hid (fun u hu => by
        have hKz := (Array.getElem?_eq_some_iff.1 HKZ.out).1
        have hb := Tryst2.Grow.below hg (.refl Z.heap.size Z)
        rw [hb.block K hKz] at hu
        rw [HKZ.out] at hu
        obtain rfl : Value.slice (some ⟨g, 0, none⟩) m c = u := by simpa using hu
        intro A n c2 hv
        cases hv
        exact hgB)
       clear hg hR hcg hfg hsg x0 x1 x2 hs1 hz1 HZ HKZ
       by_cases hp : l1[i].data.toList = [42, 42]
       ·
        have y2 : (l1[i].toList == [42, 42]) = true := by rw [str_toList, hp]; rfl
        have HSU : Hid (succs (dots s.data.toList) (dots t.data.toList) i j = (i + 1, j) :: (if j < l2.length then [(i, j + 1)] else [])) := Lib.hid (by
         unfold succs
         rw [← HH.out.2.2.2.2.2.1, List.getElem?_map, List.getElem?_eq_getElem hlt, HH.out.2.1]
         simp [hp])
        go_wp2_with fail
        refine (add_d w4 M K mb met w0 (i + 1) j _ _ (by simp) rfl (by omega) (by omega) w' HZ2.out (by rw [HH.out.2.2.1]; omega)).mono ?_
        rintro e w7 ⟨rfl, hm7, hk7⟩
        have HM7 := Lib.hid hm7
        have q0 : w7.cell? ⟨B, 0, none⟩ = some (.int .i64 (i : Int)) := (World.cell?_of_block (w := w') (a := ⟨B, 0, none⟩) (hk7 B x2' (fun e => hKB e.symm) HBM HKW.out)).trans x0'
        have q1 : w7.cell? ⟨B, 1, none⟩ = some (.int .i64 (j : Int)) := (World.cell?_of_block (w := w') (a := ⟨B, 1, none⟩) (hk7 B x2' (fun e => hKB e.symm) HBM HKW.out)).trans x1'
        clear hm7 hk7 x0' x1' x2' HZ2 HKW
        by_cases hj : j < l2.length
        ·
         rw [if_pos hj] at HSU
         go_wp2_with fail
         refine (add_d w4 M K mb _ _ i (j + 1) _ _ rfl (by simp) (by omega) (by omega) w7 HM7.out (by have := addM_len (met, w0) (i + 1, j); rw [HH.out.2.2.1] at this; omega)).mono ?_
         rintro e w8 ⟨rfl, hm8, -⟩
         have hr : roundM (dots s.data.toList) (dots t.data.toList) met w0 (i, j) = addM (addM (met, w0) (i + 1, j)) (i, j + 1) := by
          unfold roundM
          dsimp only
          rw [HSU.out]
          rfl
         have hf := HFIN.out w8 (by rw [hr]; exact hm8)
         have HF1 := Lib.hid hf.1
         have HF2 := Lib.hid hf.2
         clear hf hr
         go_wp2_with fail
         go_roundw
         case rel => exact HF1.out
         case measure => exact HF2.out
        ·
         rw [if_neg hj] at HSU
         have hr : roundM (dots s.data.toList) (dots t.data.toList) met w0 (i, j) = addM (met, w0) (i + 1, j) := by
          unfold roundM
          dsimp only
          rw [HSU.out]
          rfl
         have hf := HFIN.out w7 (by rw [hr]; exact HM7.out)
         have HF1 := Lib.hid hf.1
         have HF2 := Lib.hid hf.2
         clear hf hr
         go_wp2_with fail
         go_roundw
         case rel => exact HF1.out
         case measure => exact HF2.out
       ·
        have y2 : (l1[i].toList == [42, 42]) = false := by rw [str_toList]; simpa using hp
        have hgt : (dots s.data.toList)[i]? = some l1[i].data.toList := by rw [← HH.out.2.2.2.2.2.1, List.getElem?_map, List.getElem?_eq_getElem hlt]; rfl
        by_cases hj : j < l2.length
        ·
         obtain ⟨hz2, hs2⟩ := (HS2.out.grow HZ2.out.bel).at hj
         rw [Nat.zero_add] at hs2
         have htt : (dots t.data.toList)[j]? = some l2[j].data.toList := by rw [← HH.out.2.2.2.2.2.2, List.getElem?_map, List.getElem?_eq_getElem hj]; rfl
         by_cases h1 : l1[i].data.toList = [42]
         ·
          have y3 : (l1[i].toList == [42]) = true := by rw [str_toList, h1]; rfl
          have HSU : Hid (succs (dots s.data.toList) (dots t.data.toList) i j = [(i + 1, j + 1)]) := Lib.hid (by
           unfold succs
           rw [hgt, htt, HH.out.2.1]
           simp [h1, hj])
          clear hgt htt
          go_wp2_with fail
          refine (add_d w4 M K mb met w0 (i + 1) (j + 1) _ _ (by simp) (by simp) (by omega) (by omega) w' HZ2.out (by rw [HH.out.2.2.1]; omega)).mono ?_
          rintro e w7 ⟨rfl, hm7, -⟩
          have hr : roundM (dots s.data.toList) (dots t.data.toList) met w0 (i, j) = addM (met, w0) (i + 1, j + 1) := by
           unfold roundM
           dsimp only
           rw [HSU.out]
           rfl
          have hf := HFIN.out w7 (by rw [hr]; exact hm7)
          have HF1 := Lib.hid hf.1
          have HF2 := Lib.hid hf.2
          clear hf hr
          go_wp2_with fail
          go_roundw
          case rel => exact HF1.out
          case measure => exact HF2.out
         ·
          have y3 : (l1[i].toList == [42]) = false := by rw [str_toList]; simpa using h1
          by_cases h2 : l1[i].data.toList = l2[j].data.toList
          ·
           have y4 : (l1[i].toList == l2[j].toList) = true := strEq h2
           have HSU : Hid (succs (dots s.data.toList) (dots t.data.toList) i j = [(i + 1, j + 1)]) := Lib.hid (by
            unfold succs
            rw [hgt, htt, HH.out.2.1]
            dsimp only
            rw [if_neg hp, if_pos ⟨hj, .inr (by rw [h2])⟩])
           clear hgt htt
           go_wp2_with fail
           refine (add_d w4 M K mb met w0 (i + 1) (j + 1) _ _ (by simp) (by simp) (by omega) (by omega) w' HZ2.out (by rw [HH.out.2.2.1]; omega)).mono ?_
           rintro e w7 ⟨rfl, hm7, -⟩
           have hr : roundM (dots s.data.toList) (dots t.data.toList) met w0 (i, j) = addM (met, w0) (i + 1, j + 1) := by
            unfold roundM
            dsimp only
            rw [HSU.out]
            rfl
           have hf := HFIN.out w7 (by rw [hr]; exact hm7)
           have HF1 := Lib.hid hf.1
           have HF2 := Lib.hid hf.2
           clear hf hr
           go_wp2_with fail
           go_roundw
           case rel => exact HF1.out
           case measure => exact HF2.out
          ·
           have y4 : (l1[i].toList == l2[j].toList) = false := strNe h2
           have HSU : Hid (succs (dots s.data.toList) (dots t.data.toList) i j = []) := Lib.hid (by
            unfold succs
            rw [hgt, htt, HH.out.2.1]
            have h3 : ¬ l2[j].data.toList = l1[i].data.toList := fun e => h2 e.symm
            simp [hp, h1, h3])
           clear hgt htt
           have hr : roundM (dots s.data.toList) (dots t.data.toList) met w0 (i, j) = (met, w0) := by
            unfold roundM
            dsimp only
            rw [HSU.out]
            rfl
           have hf := HFIN.out w' (by rw [hr]; exact HZ2.out)
           have HF1 := Lib.hid hf.1
           have HF2 := Lib.hid hf.2
           clear hf hr
           go_wp2_with fail
           go_roundw
           case rel => exact HF1.out
           case measure => exact HF2.out
        ·
         have HSU : Hid (succs (dots s.data.toList) (dots t.data.toList) i j = []) := Lib.hid (by
          unfold succs
          rw [hgt, HH.out.2.1]
          simp [hp, hj])
         clear hgt
         have hr : roundM (dots s.data.toList) (dots t.data.toList) met w0 (i, j) = (met, w0) := by
          unfold roundM
          dsimp only
          rw [HSU.out]
          rfl
         have hf := HFIN.out w' (by rw [hr]; exact HZ2.out)
         have HF1 := Lib.hid hf.1
         have HF2 := Lib.hid hf.2
         clear hf hr
         go_wp2_with fail
         go_roundw
         case rel => exact HF1.out
         case measure => exact HF2.out
     ·
      have HSU : Hid (succs (dots s.data.toList) (dots t.data.toList) i j = []) := Lib.hid (succs_out (by rw [HH.out.1]; omega))
      have hie : i = l1.length := by omega
      have y5 : ((i : Int) == (l1.length : Int)) = true := by simp [hie]
      clear hie
      have hr : roundM (dots s.data.toList) (dots t.data.toList) met w0 (i, j) = (met, w0) := by
       unfold roundM
       dsimp only
       rw [HSU.out]
       rfl
      have hf := HFIN.out Z (by rw [hr]; exact HZ.out)
      have HF1 := Lib.hid hf.1
      have HF2 := Lib.hid hf.2
      clear hf hr
      go_wp2_with fail
      go_roundw
      case rel => exact HF1.out
      case measure => exact HF2.out
end Go.Proofs.YtmlbdblnmbmnpaaGreatDoor
