/- joined: clone, trim, insert and append of topics. -/
import Derived.WalkKit
import Derived.Laws.CopyOwn
import Derived.Laws.CopyRow
import Derived.Lib.AppendZerosOnto
import Derived.Test.YtmlbdblnmbmnpaaGreatDoorProg
import Derived.WalkSpells
import Derived.WalkLawsBesides
import Derived.Lib.Hide
import Derived.Deep.RegionWith
import Derived.Deep.Cut
import Derived.IntWalk
import Derived.Lib.LazyBuf
import Derived.Lib.BufferMore
import Derived.Test.YtmlbdblnmbmnpaaGreatDoorTopAD
import Derived.Test.YtmlbdblnmbmnpaaGreatDoorNmB
import Derived.Lib.Overlaps
import Derived.Test.YtmlbdblnmbmnpaaGreatDoorTopP
import Derived.ArgAppend
import Derived.Test.YtmlbdblnmbmnpaaGreatDoorAw4s
set_option linter.unusedVariables false
set_option linter.unusedSimpArgs false
namespace Tryst
open Go Go.RowKit
/-- copy, of elements that take k cells each -/
theorem run_copy_rowK {P : Program} (w : World) (dT sT ty elem : TypeId) (k g o dLen dCap : Nat) (a : Addr) (sLen sCap : Nat) (cur : Array Value) (t : TypeId) (cs : List Value)
  (hu : P.underlying dT = some (.slice elem)) (hs : (P.info? elem).map (·.size) = some k)
  (hg : w.heap[g]? = some (.cells cur t (0, 0))) (hn : cs.length = Nat.min sLen dLen * k)
  (hsrc : ∀ j v, cs[j]? = some v → w.cell? (a.add j) = some v) (hfit : o + cs.length ≤ cur.size) (h1 : ∀ v ∈ cs, v.oneCell' = true) :
  (Builtin.copy_ #[dT, sT] ty #[.slice (some ⟨g, o, none⟩) dLen dCap, .slice (some a) sLen sCap]).run P w =
   .ok (goInt (Nat.min sLen dLen)) (w.setRow g (cur.toList.take o ++ cs ++ cur.toList.drop (o + cs.length)).toArray) := by
 have hl := run_loadCells_list (P := P) w a cs hsrc
 have hst := run_storeCells_at P g o t cs 0 cur w hg (by simpa using hfit) h1
 cases hq : P.info? elem with
 | none => simp [hq] at hs
 | some i =>
  have hi : i.size = k := by simpa [hq] using hs
  simp [Builtin.copy_, run_underlying hu, Builtin.lenOf, Builtin.firstCells, Go.sizeOf, typeInfo, hq, hi, ← hn, hl, hst]
theorem wpList_copyK {P : Program} {w : World} {ops : Array Oper} {rest : List Oper} {o : Oper} {a : Act} {Q : Exit → Act → World → Prop} (hgd : o.guard = none) (d s : Operand) (dT sT : TypeId)
  (ho : o.op = .call { callee := .builtin .copy, args := #[d, s], argTypes := #[dT, sT] }) (elem : TypeId) (k : Nat) (hu : P.underlying dT = some (.slice elem)) (hsz : (P.info? elem).map (·.size) = some k)
  (g off dLen dCap : Nat) (ad : Addr) (sLen sCap : Nat) (hd : a.eval d = .slice (some ⟨g, off, none⟩) dLen dCap) (hs : a.eval s = .slice (some ad) sLen sCap)
  (cur : List Value) (t : TypeId) (hg : w.heap[g]? = some (.cells cur.toArray t (0, 0))) (cs : List Value) (hn : cs.length = Nat.min sLen dLen * k)
  (hsrc : ∀ j v, cs[j]? = some v → w.cell? (ad.add j) = some v) (hfit : off + cs.length ≤ cur.length) (h1 : ∀ v ∈ cs, v.oneCell' = true)
  (h : ∀ w', w'.heap[g]? = some (.cells (cur.take off ++ cs ++ cur.drop (off + cs.length)).toArray t (0, 0)) → (∀ B w0, B ≤ g → Below B w0 w → Below B w0 w') → (∀ k, k ≠ g → w'.heap[k]? = w.heap[k]?) → w'.heap.size = w.heap.size →
   wpList P ops Q rest (a.put o.dst (goInt (Nat.min sLen dLen))) w') : wpList P ops Q (o :: rest) a w := by
 refine wpList_plain hgd fun K hK => ?_
 have hrun := run_copy_rowK (P := P) w dT sT o.type elem k g off dLen dCap ad sLen sCap cur.toArray t cs hu hsz hg hn hsrc (by simpa using hfit) h1
 unfold Oper.wp
 simp only [execOp, ho, resolve, invoke, builtin, hd, hs, Sem.run_bind, Sem.run_pure, Result.andThen_ok, List.map_toArray, List.map_cons, List.map_nil, hrun]
 refine hK _ _ (h _ ?_ (fun B w0 hB hb => below_setRow hb hB _) (fun k hk => setRow_other w g k _ hk) (by simp))
 exact setRow_heap w g _ _ t _ hg
end Tryst
namespace Go.Proofs.YtmlbdblnmbmnpaaGreatDoor
open Go.RowKit Tryst
set_option maxHeartbeats 400000
set_option maxRecDepth 20000
theorem topT : SliceOf Tryz.prog 29 57 3 48 := .mk' Tryz.underlying29 (z := .agg #[.string ⟨#[]⟩, .int .i64 0, .slice none 0 0]) (by kernel_rfl) rfl (by decide) (by decide)
end Go.Proofs.YtmlbdblnmbmnpaaGreatDoor
namespace Go.Proofs.YtmlbdblnmbmnpaaGreatDoor
open Go.RowKit Tryst
set_option maxHeartbeats 400000
set_option maxRecDepth 20000
def TLogO (w : World) (base : Nat) (l : List TB) (k : Nat) : Prop := ∀ (i : Nat) (h : i < l.length), i < k → ROwn 9 1 w base (.slice l[i].la l[i].log.length l[i].lc) (l[i].log.map fun s => [Value.string s])
theorem TLogO.grow {w w' : World} {base : Nat} {l : List TB} {k : Nat} (h : TLogO w base l k) (hb : Below w.heap.size w w') : TLogO w' base l k := fun i hi hk => (h i hi hk).grow hb
def TOwn (w : World) (base : Nat) (v : Value) (l : List TB) : Prop := ROwn 57 3 w base v (l.map TB.cells)
theorem TOwn.grow {w w' : World} {base : Nat} {v : Value} {l : List TB} (h : TOwn w base v l) (hb : Below w.heap.size w w') : TOwn w' base v l := ROwn.grow h hb
/-- topics that a call made itself, their logs too -/
def CloneTR (w : World) (l : List TB) (e : Ending) (w' : World) : Prop := ∃ a c l', e = .returned (.slice a l.length c) ∧ l'.length = l.length ∧ l'.map TB.tp = l.map TB.tp ∧ TOwn w' w.heap.size (.slice a l.length c) l' ∧ TLogO w' w.heap.size l' l.length ∧ Below w.heap.size w w'
/-- its k-th log written anew -/
def _root_.Tryst.TB.relog (t : TB) (a : Option Addr) (c : Nat) : TB := ⟨t.name, t.first, a, t.log, c⟩
theorem TOwn.block {w : World} {base : Nat} {v : Value} {l : List TB} (h : TOwn w base v l) (h0 : 0 < l.length) :
  ∃ g c, v = .slice (some ⟨g, 0, none⟩) l.length c ∧ base ≤ g ∧ g < w.heap.size ∧ (∀ j, w.frozen? ⟨g, j, none⟩ = false) ∧ (∃ cur, w.heap[g]? = some (.cells cur 57 (0, 0))) ∧
   (∀ (i : Nat) (hi : i < l.length), TAt w g (i * 3) l[i]) ∧
   (∀ (i : Nat) (hi : i < l.length) (a : Option Addr) (c : Nat), TOwn (w.setCell ⟨g, i * 3 + 2, none⟩ (.slice a l[i].log.length c)) base v (l.set i (l[i].relog a c))) := by
 obtain ⟨g, c, hv, h1, h2, h3, h4, h5⟩ := ROwn.block h (TB.cells_len l) (by simpa using h0)
 rw [List.length_map] at hv
 refine ⟨g, c, hv, h1, h2, h3, ?_, fun i hi => ?_, fun i hi a c => ?_⟩
 ·
  exact own_typed h ⟨g, 0, none⟩ _ _ hv
 ·
  have h6 := h4 i (by simpa using hi)
  simp only [List.getElem_map] at h6
  exact ⟨h6 0 (by omega), h6 1 (by omega), h6 2 (by omega)⟩
 ·
  have h6 := h5 i (by simpa using hi) 2 (by omega) (.slice a l[i].log.length c)
  have e : (l.map TB.cells).set i (((l.map TB.cells)[i]'(by simpa using hi)).set 2 (.slice a l[i].log.length c)) = (l.set i (l[i].relog a c)).map TB.cells := by
   rw [List.map_set, List.getElem_map]
   rfl
  rw [e] at h6
  exact h6
theorem TLogO.off {w : World} {base : Nat} {l : List TB} {k : Nat} (h : TLogO w base l k) {g j : Nat} {cur : Array Value} (hg : w.heap[g]? = some (.cells cur 57 (0, 0))) (u : Value) : TLogO (w.setCell ⟨g, j, none⟩ u) base l k :=
 fun i hi hk => own_setCell_off (h i hi hk) u (typed_ne (h i hi hk) hg (by decide))
theorem TLogO.next {w : World} {base : Nat} {l : List TB} {k : Nat} (h : TLogO w base l k) {t : TB} (hk : k < l.length) (ht : ROwn 9 1 w base (.slice t.la t.log.length t.lc) (t.log.map fun s => [Value.string s])) : TLogO w base (l.set k t) (k + 1) := by
 intro i hi hik
 rw [List.length_set] at hi
 by_cases e : i = k
 ·
  subst e
  rw [List.getElem_set_self]
  exact ht
 ·
  rw [List.getElem_set_ne (fun h => e h.symm)]
  exact h i hi (by omega)
end Go.Proofs.YtmlbdblnmbmnpaaGreatDoor
namespace Go.Proofs.YtmlbdblnmbmnpaaGreatDoor
open Go.RowKit Tryst
set_option maxHeartbeats 400000
set_option maxRecDepth 20000
/-- topics, and an error's number -/
def TopsR (w : World) (p : List Tp × Nat) (e : Ending) (w' : World) : Prop := ∃ a c l', e = .returned (.tuple #[.slice a p.1.length c, .int .i64 p.2]) ∧ l'.map TB.tp = p.1 ∧ Tops w' a l' ∧ Sl a c p.1.length ∧ Below w.heap.size w w'
theorem TopsR.bad {w w' : World} {k : Nat} {e : Ending} (he : e = .returned (.tuple #[.slice none 0 0, .int .i64 k])) (hb : Below w.heap.size w w') : TopsR w ([], k) e w' :=
 ⟨none, 0, [], he, rfl, Tops.nil _ _, ⟨Nat.le_refl _, fun A h => (by cases h), fun _ => rfl⟩, hb⟩
theorem rows_strs {w : World} {base : Nat} {a : Option Addr} {n c : Nat} {log : List ByteArray} (h : ROwn 9 1 w base (.slice a n c) (log.map fun s => [Value.string s])) : Strs w a log ∧ Sl a c log.length := by
 have h2 : SOwn 9 w base (.slice a n c) log := SOwn.rows.2 h
 obtain ⟨a', c', hv, h3, h4, _⟩ := h2.strs
 simp only [Value.slice.injEq] at hv
 obtain ⟨rfl, rfl, rfl⟩ := hv
 exact ⟨h3, h4⟩
theorem TLogO.logs {w : World} {base : Nat} {l : List TB} {k : Nat} (h : TLogO w base l k) (hk : l.length ≤ k) : TLogs w l := by
 intro t ht
 obtain ⟨i, hi, rfl⟩ := List.getElem_of_mem ht
 exact rows_strs (h i hi (by omega))
/-- a topic of the call's own gets another first number and another log -/
theorem TOwn.put2 {w : World} {base : Nat} {v : Value} {l : List TB} (h : TOwn w base v l) {g : Nat} {n c : Nat} (hv : v = .slice (some ⟨g, 0, none⟩) n c) {i : Nat} (hi : i < l.length) (f : Int) (a : Option Addr) (lg : List ByteArray) (c' : Nat) :
  TOwn ((w.setCell ⟨g, i * 3 + 2, none⟩ (.slice a lg.length c')).setCell ⟨g, i * 3 + 1, none⟩ (.int .i64 f)) base v (l.set i ⟨l[i].name, f, a, lg, c'⟩) := by
 have hlen := TB.cells_len l
 obtain ⟨g1, c1, hv1, _, _, _, _, h5⟩ := ROwn.block h hlen (by simpa using (by omega : 0 < l.length))
 rw [hv] at hv1
 simp only [Value.slice.injEq, Option.some.injEq, Addr.mk.injEq, and_true] at hv1
 obtain ⟨rfl, _⟩ := hv1
 have h6 := h5 i (by simpa using hi) 2 (by omega) (.slice a lg.length c')
 have e1 : (l.map TB.cells).set i (((l.map TB.cells)[i]'(by simpa using hi)).set 2 (.slice a lg.length c')) = (l.set i ⟨l[i].name, l[i].first, a, lg, c'⟩).map TB.cells := by
  rw [List.map_set, List.getElem_map]
  rfl
 rw [e1] at h6
 obtain ⟨g2, c2, hv2, _, _, _, _, h7⟩ := ROwn.block h6 (TB.cells_len _) (by rw [List.length_map, List.length_set]; omega)
 rw [hv] at hv2
 simp only [Value.slice.injEq, Option.some.injEq, Addr.mk.injEq, and_true] at hv2
 obtain ⟨rfl, _⟩ := hv2
 have h8 := h7 i (by simpa using hi) 1 (by omega) (.int .i64 f)
 have e2 : ((l.set i ⟨l[i].name, l[i].first, a, lg, c'⟩).map TB.cells).set i ((((l.set i ⟨l[i].name, l[i].first, a, lg, c'⟩).map TB.cells)[i]'(by simpa using hi)).set 1 (.int .i64 f)) = (l.set i ⟨l[i].name, f, a, lg, c'⟩).map TB.cells := by
  rw [List.getElem_map, List.getElem_set_self]
  show ((l.set i ⟨l[i].name, l[i].first, a, lg, c'⟩).map TB.cells).set i (TB.cells ⟨l[i].name, f, a, lg, c'⟩) = _
  rw [← List.map_set, List.set_set]
 rw [e2] at h8
 exact h8
/-- its logs then -/
theorem TLogO.put {w : World} {base : Nat} {l : List TB} (h : TLogO w base l l.length) {g j j' : Nat} {cur : Array Value} (hg : w.heap[g]? = some (.cells cur 57 (0, 0))) (u u' : Value) {i : Nat} {t : TB} (ht : Strs w t.la t.log ∧ Sl t.la t.lc t.log.length) (ha : ∀ b o, t.la = some ⟨b, o, none⟩ → g ≠ b) :
  TLogs ((w.setCell ⟨g, j, none⟩ u).setCell ⟨g, j', none⟩ u') (l.set i t) := by
 intro x hx
 obtain ⟨k, hk, rfl⟩ := List.getElem_of_mem hx
 rw [List.length_set] at hk
 by_cases e : i = k
 ·
  subst e
  rw [List.getElem_set_self]
  exact ⟨(ht.1.away ha u).away ha u', ht.2⟩
 ·
  rw [List.getElem_set_ne e]
  have h1 := h k hk hk
  have hne := typed_ne h1 hg (by decide)
  exact rows_strs (own_setCell_off (own_setCell_off h1 u hne) u' hne)
end Go.Proofs.YtmlbdblnmbmnpaaGreatDoor
namespace Go.Proofs.YtmlbdblnmbmnpaaGreatDoor
open Go.RowKit Tryst
set_option maxHeartbeats 400000
set_option maxRecDepth 20000
end Go.Proofs.YtmlbdblnmbmnpaaGreatDoor
namespace Go.Proofs.YtmlbdblnmbmnpaaGreatDoor
open Go.RowKit Tryst
set_option maxHeartbeats 400000
set_option maxRecDepth 20000
end Go.Proofs.YtmlbdblnmbmnpaaGreatDoor
namespace Go.Proofs.YtmlbdblnmbmnpaaGreatDoor
open Go.RowKit Tryst
set_option maxHeartbeats 400000
set_option maxRecDepth 20000
end Go.Proofs.YtmlbdblnmbmnpaaGreatDoor
namespace Go.Proofs.YtmlbdblnmbmnpaaGreatDoor
open Go.RowKit Tryst
set_option maxHeartbeats 400000
set_option maxRecDepth 20000
end Go.Proofs.YtmlbdblnmbmnpaaGreatDoor
namespace Tryst
open Go Go.Lib
end Tryst
namespace Go.Proofs.YtmlbdblnmbmnpaaGreatDoor
open Go.RowKit Tryst
set_option maxHeartbeats 400000
set_option maxRecDepth 20000
/-- topics with an event's octets at their topic's end: the topics, the number, the error's number; may: may the event be? -/
def appP (L : List Tp) (may : Bool) (n s : ByteArray) : List Tp × Int × Nat :=
 if topsMay L = true ∧ may = true then match findT L n with
  | none => if 20 ≤ L.length then ([], 0, 6) else (L.take (aheadT L n) ++ ⟨n, 0, [s]⟩ :: L.drop (aheadT L n), 0, 0)
  | some i => match L[i]? with
   | none => ([], 0, 6)
   | some t => if 100 ≤ t.log.length ∨ 1099511627775 ≤ t.first + (t.log.length : Int) then ([], 0, 6) else (L.set i ⟨t.name, t.first, t.log ++ [s]⟩, t.first + (t.log.length : Int), 0)
 else ([], 0, 1)
def AppR (w : World) (p : List Tp × Int × Nat) (e : Ending) (w' : World) : Prop := ∃ a c l', e = .returned (.tuple #[.slice a p.1.length c, .int .i64 p.2.1, .int .i64 p.2.2]) ∧ l'.map TB.tp = p.1 ∧ Tops w' a l' ∧ Sl a c p.1.length ∧ Below w.heap.size w w'
theorem AppR.bad {w w' : World} {k : Nat} {e : Ending} (he : e = .returned (.tuple #[.slice none 0 0, .int .i64 0, .int .i64 k])) (hb : Below w.heap.size w w') : AppR w ([], 0, k) e w' :=
 ⟨none, 0, [], he, rfl, Tops.nil _ _, ⟨Nat.le_refl _, fun A h => (by cases h), fun _ => rfl⟩, hb⟩
def CloneP (base : Nat) (l : List TB) (v : Value) (w : World) : Prop := ∃ a c l', v = .slice a l'.length c ∧ l'.length = l.length ∧ l'.map TB.tp = l.map TB.tp ∧ TOwn w base (.slice a l'.length c) l' ∧ TLogO w base l' l'.length
theorem TLogO.lower {w : World} {base base' : Nat} {l : List TB} {k : Nat} (h : TLogO w base l k) (hb : base' ≤ base) : TLogO w base' l k := fun i hi hk => (h i hi hk).lower hb
theorem CloneP.at {base : Nat} {l : List TB} {v : Value} {w' : World} (h : ∃ w0, Tryst2.Grow w0 w' ∧ CloneP base l v w0) : CloneP base l v w' := by
 obtain ⟨w0, hg, a, c, l', h1, h2, h3, h4, h5⟩ := h
 exact ⟨a, c, l', h1, h2, h3, h4.grow hg, h5.grow hg⟩
theorem CloneP.of {w w' : World} {base : Nat} {l : List TB} {e : Ending} (hb : base ≤ w.heap.size) (h : CloneTR w l e w') : ∃ v, e = .returned v ∧ Tryst2.Grow w w' ∧ ∃ w0, Tryst2.Grow w0 w' ∧ CloneP base l v w0 := by
 obtain ⟨a, c, l', rfl, h1, h2, h3, h4, h5⟩ := h
 rw [← h1] at h3 h4 ⊢
 exact ⟨_, rfl, h5, w', Tryst2.Grow.refl _, a, c, l', rfl, h1, h2, ROwn.lower h3 hb, h4.lower hb⟩
theorem _root_.Tryst.ROwn.cap {e : TypeId} {k : Nat} {w : World} {base : Nat} {a : Option Addr} {n c : Nat} {l : List (List Value)} (h : ROwn e k w base (.slice a n c) l) : c ≤ 9223372036854775807 := by
 rcases h.2 with ⟨hv, _⟩ | ⟨g, cap, cur, hv, _, _, _, h2, _⟩
 ·
  cases hv; omega
 ·
  cases hv; exact h2
/-- a new slice of one topic -/
def OneP (t : TB) (v : Value) (w : World) : Prop := ∃ g, v = .slice (some ⟨g, 0, none⟩) 1 1 ∧ w.heap[g]? = some (.cells #[.string t.name, .int .i64 t.first, .slice t.la t.log.length t.lc] 57 (0, 0))
theorem OneP.at {t : TB} {v : Value} {w' : World} (h : ∃ w0, Tryst2.Grow w0 w' ∧ OneP t v w0) : OneP t v w' := by
 obtain ⟨w0, hg, g, h1, h2⟩ := h
 exact ⟨g, h1, (hg.block g (Array.getElem?_eq_some_iff.1 h2).1).trans h2⟩
theorem OneP.of (w : World) (t : TB) : Tryst2.Grow w (w.alloc (.cells #[.string t.name, .int .i64 t.first, .slice t.la t.log.length t.lc] 57)) ∧ ∃ w0, Tryst2.Grow w0 (w.alloc (.cells #[.string t.name, .int .i64 t.first, .slice t.la t.log.length t.lc] 57)) ∧ OneP t (.slice (some ⟨w.heap.size, 0, none⟩) 1 1) w0 :=
 ⟨balloc _ (.refl _ _), _, Tryst2.Grow.refl _, w.heap.size, rfl, by show (w.heap.push _)[w.heap.size]? = _; simp⟩
/-- a topic of the call's own gets another log -/
theorem TOwn.put1 {w : World} {base : Nat} {v : Value} {l : List TB} (h : TOwn w base v l) {g : Nat} {n c : Nat} (hv : v = .slice (some ⟨g, 0, none⟩) n c) {i : Nat} (hi : i < l.length) (a : Option Addr) (lg : List ByteArray) (c' : Nat) :
  TOwn (w.setCell ⟨g, i * 3 + 2, none⟩ (.slice a lg.length c')) base v (l.set i ⟨l[i].name, l[i].first, a, lg, c'⟩) := by
 have hlen := TB.cells_len l
 obtain ⟨g1, c1, hv1, _, _, _, _, h5⟩ := ROwn.block h hlen (by simpa using (by omega : 0 < l.length))
 rw [hv] at hv1
 simp only [Value.slice.injEq, Option.some.injEq, Addr.mk.injEq, and_true] at hv1
 obtain ⟨rfl, _⟩ := hv1
 have h6 := h5 i (by simpa using hi) 2 (by omega) (.slice a lg.length c')
 have e1 : (l.map TB.cells).set i (((l.map TB.cells)[i]'(by simpa using hi)).set 2 (.slice a lg.length c')) = (l.set i ⟨l[i].name, l[i].first, a, lg, c'⟩).map TB.cells := by
  rw [List.map_set, List.getElem_map]
  rfl
 rw [e1] at h6
 exact h6
theorem TLogO.put1 {w : World} {base : Nat} {l : List TB} (h : TLogO w base l l.length) {g j : Nat} {cur : Array Value} (hg : w.heap[g]? = some (.cells cur 57 (0, 0))) (u : Value) {i : Nat} {t : TB} (ht : Strs w t.la t.log ∧ Sl t.la t.lc t.log.length) (ha : ∀ b o, t.la = some ⟨b, o, none⟩ → g ≠ b) :
  TLogs (w.setCell ⟨g, j, none⟩ u) (l.set i t) := by
 intro x hx
 obtain ⟨k, hk, rfl⟩ := List.getElem_of_mem hx
 rw [List.length_set] at hk
 by_cases e : i = k
 ·
  subst e
  rw [List.getElem_set_self]
  exact ⟨ht.1.away ha u, ht.2⟩
 ·
  rw [List.getElem_set_ne e]
  have h1 := h k hk hk
  exact rows_strs (own_setCell_off h1 u (typed_ne h1 hg (by decide)))
/-- topics' logs lie in blocks from base on -/
def NewL (base : Nat) (l : List TB) : Prop := ∀ t ∈ l, ∀ b o, t.la = some ⟨b, o, none⟩ → base ≤ b
theorem NewL.mono {base base' : Nat} {l : List TB} (h : NewL base l) (hb : base' ≤ base) : NewL base' l := fun t ht b o e => Nat.le_trans hb (h t ht b o e)
theorem NewL.set {base : Nat} {l : List TB} (h : NewL base l) (i : Nat) {t : TB} (ht : ∀ b o, t.la = some ⟨b, o, none⟩ → base ≤ b) : NewL base (l.set i t) := fun x hx => by
 rcases List.mem_or_eq_of_mem_set hx with h1 | rfl
 ·
  exact h x h1
 ·
  exact ht
/-- .. that the call made itself -/
def AppRO (w : World) (p : List Tp × Int × Nat) (e : Ending) (w' : World) : Prop := ∃ a c l', e = .returned (.tuple #[.slice a p.1.length c, .int .i64 p.2.1, .int .i64 p.2.2]) ∧ l'.map TB.tp = p.1 ∧ Tops w' a l' ∧ Sl a c p.1.length ∧ Below w.heap.size w w' ∧ NewL w.heap.size l' ∧ ∀ b o, a = some ⟨b, o, none⟩ → w.heap.size ≤ b
theorem AppRO.bad {w w' : World} {k : Nat} {e : Ending} (he : e = .returned (.tuple #[.slice none 0 0, .int .i64 0, .int .i64 k])) (hb : Below w.heap.size w w') : AppRO w ([], 0, k) e w' :=
 ⟨none, 0, [], he, rfl, Tops.nil _ _, ⟨Nat.le_refl _, fun A h => (by cases h), fun _ => rfl⟩, hb, fun t h => (by cases h), fun b o h => (by cases h)⟩
end Go.Proofs.YtmlbdblnmbmnpaaGreatDoor
