/- Laws over whatever program, for what a call makes; ends of walks. -/
import Derived.WalkKit
import Derived.WalkSpells
import Derived.WalkLawsBesides
import Derived.Lib.Hide
import Derived.MapKept
set_option linter.unusedVariables false
set_option linter.unusedSimpArgs false
namespace Tryst
open Go Go.RowKit
theorem ret_eq {a b : Value} (h : a = b) : Ending.returned a = .returned b := by rw [h]
/-- what an append to '[]e' asks of the types' table: t the slice's type, e the element's, so many cells and bytes -/
structure SliceOf (P : Program) (t e : TypeId) (size bytes : Nat) : Prop where
  und : P.underlying t = some (.slice e)
  info : ∃ i z, P.info? e = some i ∧ i.zero = some z ∧ i.size = size ∧ i.bytes = bytes ∧ z.cells.size = size
  pos : 0 < size
  small : bytes ≤ 65536
theorem SliceOf.mk' {P : Program} {t e : TypeId} {size bytes : Nat} {z : Value} (hu : P.underlying t = some (.slice e)) (hi : (P.info? e).map (fun i => (i.zero, i.size, i.bytes)) = some (some z, size, bytes)) (hz : z.cells.size = size) (hp : 0 < size) (hb : bytes ≤ 65536) : SliceOf P t e size bytes := by
  refine ⟨hu, ?_, hp, hb⟩
  cases h : P.info? e with
  | none => rw [h] at hi; cases hi
  | some i =>
    rw [h] at hi
    simp only [Option.map_some, Option.some.injEq, Prod.mk.injEq] at hi
    exact ⟨i, z, rfl, hi.1, hi.2.1, hi.2.2, hz⟩
/-- append, to a slice of the call's own, of what lies in a block -/
theorem wpList_app {P : Program} {w : World} {ops : Array Oper} {rest : List Oper} {o : Oper} {a : Act} {Q : Exit → Act → World → Prop} {t e : TypeId} {size bytes : Nat} (E : SliceOf P t e size bytes) (hgd : o.guard = none) (s x : Operand)
    (ho : o.op = .call { callee := .builtin .append, args := #[s, x], argTypes := #[t, t] })
    (base : Nat) (v : Value) (n : Nat) (xs : List Value) (hs : a.eval s = v) (hown : w.ownsRow base e size v n xs)
    (ad : Addr) (m c : Nat) (news : List Value) (hx : a.eval x = .slice (some ad) m c) (hl : news.length = m * size) (hnews : ∀ j u, news[j]? = some u → w.cell? (ad.add j) = some u) (h1 : ∀ u ∈ news, u.oneCell' = true)
    (hn : n + m ≤ 1073741824) (hbase : base ≤ w.heap.size)
    (h : ∀ v' w', w'.ownsRow base e size v' (n + m) (xs ++ news) → Below base w w' → (v' = .slice none 0 0 ↔ v = .slice none 0 0 ∧ m = 0) → wpList P ops Q rest (a.put o.dst v') w') : wpList P ops Q (o :: rest) a w := by
  obtain ⟨i, z, hi, hz, h2, h3, h4⟩ := E.info
  refine wpList_append_own w hgd s x t ho base e i z size bytes E.und hi hz h2 h3 h4 E.pos v n xs hs hown ad m c news hx hl hnews h1 (by unfold maxLen; omega) ?_ hbase ?_
  · have := E.small
    calc (n + m) * bytes ≤ 1073741824 * 65536 := Nat.mul_le_mul hn this
      _ ≤ _ := by decide
  · intro v' w' ho' hg' hv'
    exact h v' w' ho' ((Below.refl base w).grown hg' hbase fun k hk => (hown.lt k hk).1) hv'
/-- append, to a slice of the call's own, of one element of one cell, which lies in the newest block -/
theorem wpList_app1 {P : Program} {w : World} {ops : Array Oper} {rest : List Oper} {o : Oper} {a : Act} {Q : Exit → Act → World → Prop} {t e : TypeId} {bytes : Nat} (E : SliceOf P t e 1 bytes) (hgd : o.guard = none) (s x : Operand)
    (ho : o.op = .call { callee := .builtin .append, args := #[s, x], argTypes := #[t, t] })
    (base : Nat) (v : Value) (n : Nat) (xs : List Value) (hs : a.eval s = v) (hown : w.ownsRow base e 1 v n xs)
    (u : Value) (e' : TypeId) (hx : a.eval x = .slice (some ⟨w.heap.size, 0, none⟩) 1 1) (h1 : u.oneCell' = true)
    (hn : n + 1 ≤ 1073741824) (hbase : base ≤ w.heap.size)
    (h : ∀ v' w', w'.ownsRow base e 1 v' (n + 1) (xs ++ [u]) → Below base w w' → wpList P ops Q rest (a.put o.dst v') w') : wpList P ops Q (o :: rest) a (w.alloc (.cells #[u] e')) := by
  refine wpList_app E hgd s x ho base v n xs hs (hown.alloc _) ⟨w.heap.size, 0, none⟩ 1 1 [u] hx rfl ?_ (by simpa using h1) hn (by simp; omega) ?_
  · intro j y hj
    cases j with
    | zero => simp at hj; subst hj; rw [Addr.add_lit]; exact World.cell?_alloc_new _ _ _ _
    | succ j => simp at hj
  · intro v' w' h2 h3 _
    exact h v' w' h2 (((Below.refl base w).alloc hbase _).trans h3)
def byteV (b : UInt8) : Value := .int .u8 (b.toNat : Int)
/-- 'string(b)' of a slice of the call's own -/
theorem own_string {P : Program} {w : World} {base : Nat} {e : TypeId} {v : Value} {n : Nat} {l : List UInt8} (src dst : TypeId) (hs : P.underlying src = some (.slice e)) (he : P.underlying e = some (.int .u8)) (hd : P.underlying dst = some .string)
    (h : w.ownsRow base e 1 v n (l.map byteV)) : (convert src dst v).run P w = .ok (.string ⟨l.toArray⟩) w := by
  have hl : l.length = n := by simpa using h.1
  rcases h.2 with ⟨rfl, h0⟩ | ⟨g, cap, cur, rfl, _⟩
  · have : l = [] := List.eq_nil_of_length_eq_zero (by omega)
    subst this
    exact run_convert_bytes_nil w src e hs he 0 0 dst hd
  · subst hl
    refine run_convert_bytes_back w src dst e ⟨g, 0, none⟩ cap l hs he hd fun j hj => ?_
    have hc := h.cellAt j (by simpa using hj)
    rw [Addr.add_lit, Nat.zero_add, hc]
    simp [hj, byteV]
end Tryst
namespace Tryst
open Go Go.RowKit
def cellNum : Option Value → Option Int
  | some (.int .u8 x) => some x
  | _ => none
theorem cellNum_some (x : Int) : cellNum (some (.int .u8 x)) = some x := rfl
/-- 'string([]byte{c})' -/
theorem conv1 (P : Program) (src e dst : TypeId) (hs : P.underlying src = some (.slice e)) (he : P.underlying e = some (.int .u8)) (hd : P.underlying dst = some .string) :
    ∀ (w : World) (g c : Nat), (cellNum (w.cell? ⟨g, 0, none⟩)).isSome = true → (convert src dst (.slice (some ⟨g, 0, none⟩) 1 c)).run P w = .ok (.string ⟨[UInt8.ofNat ((cellNum (w.cell? ⟨g, 0, none⟩)).getD 0).toNat].toArray⟩) w := by
  intro w g c h
  cases hc : w.cell? ⟨g, 0, none⟩ with
  | none => rw [hc] at h; simp [cellNum] at h
  | some v =>
    rw [hc] at h
    have : ∃ x, v = .int .u8 x := by
      unfold cellNum at h
      split at h
      · rename_i x hx; exact ⟨x, by simpa using hx⟩
      · simp at h
    obtain ⟨x, rfl⟩ := this
    rw [run_convert_bytes_arg (P := P) w src e hs he g 0 1 c [x] rfl (fun i hi => by
      obtain rfl : i = 0 := by omega
      simpa using hc) dst hd]
    simp [strOfNums, cellNum]
end Tryst
namespace Tryst
open Go Go.RowKit
theorem bcell {W w1 : World} (hb : Below W.heap.size W w1) : (∀ b o, b < W.heap.size → w1.cell? ⟨b, o, none⟩ = W.cell? ⟨b, o, none⟩) ∧ (∀ b o, b < W.heap.size → w1.frozen? ⟨b, o, none⟩ = W.frozen? ⟨b, o, none⟩) :=
  ⟨fun b o h => hb.cell (p := ⟨b, o, none⟩) h, fun b o h => hb.frozen (p := ⟨b, o, none⟩) h⟩
theorem bstep {w X w1 : World} (hb : Below X.heap.size X w1) (h : Below w.heap.size w X) : Below w.heap.size w w1 := h.trans (hb.mono h.size)
theorem balloc {w X : World} (o : Obj) (h : Below w.heap.size w X) : Below w.heap.size w (X.alloc o) := h.alloc h.size o
theorem bdrew {w X : World} (h : Below w.heap.size w X) : Below w.heap.size w X.drew := h.drew
theorem bset {w X : World} {p : Addr} (u : Value) (hp : w.heap.size ≤ p.block) (h : Below w.heap.size w X) : Below w.heap.size w (X.setCell p u) := h.setCell hp u
theorem ret_str {a b : List UInt8} (h : a = b) : Ending.returned (.string ⟨a.toArray⟩) = .returned (.string ⟨b.toArray⟩) := by rw [h]
end Tryst
namespace Tryst
open Go Go.RowKit
theorem str_ext {a b : ByteArray} (h : a.data.toList = b.data.toList) : a = b := by
  apply ByteArray.ext; apply Array.ext'; exact h
theorem str_iff (a b : ByteArray) : (a == b) = true ↔ a.data.toList = b.data.toList := by
  rw [MapKept.bytes_beq]
  exact ⟨fun h => by rw [h], str_ext⟩
theorem str_beq (a b : ByteArray) : (a == b) = decide (a.data.toList = b.data.toList) := by
  rw [Bool.eq_iff_iff, str_iff]; simp
theorem str_bne (a b : ByteArray) : (a != b) = !decide (a.data.toList = b.data.toList) := by
  rw [bne, str_beq]
theorem sub_str {s : ByteArray} {a b : Nat} : (s.extract a b).data.toList = (s.data.toList.take b).drop a := by
  simp [ByteArray.data_extract, List.drop_take]
theorem app_str {a b : ByteArray} : (a ++ b).data.toList = a.data.toList ++ b.data.toList := by
  simp [ByteArray.data_append]
theorem mk_str (l : List UInt8) : (ByteArray.mk l.toArray).data.toList = l := by simp
theorem len_str (s : ByteArray) : s.data.toList.length = s.size := by simp
end Tryst
namespace Tryst
open Go Go.RowKit
theorem str_toList (b : ByteArray) : b.toList = b.data.toList := by
  have h : ∀ (n i : Nat) (r : List UInt8), n + i = b.size → ByteArray.toList.loop b i r = r.reverse ++ b.data.toList.drop i := by
    intro n
    induction n with
    | zero =>
      intro i r hi
      unfold ByteArray.toList.loop
      rw [if_neg (by omega), List.drop_eq_nil_of_le (by simp; omega), List.append_nil]
    | succ n ih =>
      intro i r hi
      unfold ByteArray.toList.loop
      have hlt : i < b.data.toList.length := by simp; omega
      rw [if_pos (by omega), ih (i + 1) _ (by omega), List.drop_eq_getElem_cons hlt]
      have e : b.get! i = b.data.toList[i] := by
        simp only [ByteArray.get!]
        rw [getElem!_pos b.data i (by simpa using hlt)]
        simp
      simp [e]
  have := h b.size 0 [] (by omega)
  simpa [ByteArray.toList] using this
theorem strEq {a b : ByteArray} (h : a.data.toList = b.data.toList) : (a.toList == b.toList) = true := by
  rw [str_toList, str_toList, h]; simp
theorem strNe {a b : ByteArray} (h : ¬ a.data.toList = b.data.toList) : (a.toList == b.toList) = false := by
  rw [str_toList, str_toList]; simpa using h
end Tryst
namespace Tryst
open Go Go.RowKit
theorem ret_bool {a b : Bool} (h : a = b) : Ending.returned (.bool a) = .returned (.bool b) := by rw [h]
theorem ret_int {k : IntKind} {a b : Int} (h : a = b) : Ending.returned (.int k a) = .returned (.int k b) := by rw [h]
theorem str_nil_iff (s : ByteArray) : s.data.toList = [] ↔ s.size = 0 := by
  rw [← List.length_eq_zero_iff, len_str]
end Tryst
