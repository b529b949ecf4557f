/- The walk of event.Take. -/
import Derived.Test.YtmmdblpoecidaaaGreatDoorEvD
import Derived.Test.YtmmdblpoecidaaaGreatDoorRdA
import Derived.Test.YtmmdblpoecidaaaGreatDoorFldG
import Derived.Deep.RegionWith
import Derived.Test.YtmmdblpoecidaaaGreatDoorProg
import Derived.WalkKit
import Derived.WalkSpells
import Derived.WalkLawsBesides
import Derived.Lib.Hide
import Derived.Deep.Cut
import Derived.Test.YtmmdblpoecidaaaGreatDoorRd3
set_option linter.unusedVariables false
set_option linter.unusedSimpArgs false
namespace Tryst
open Go Go.RowKit
theorem EAt.only {v w : World} {g b : Nat} {t p : ByteArray} {q : Int} {u : Value} (h : EAt v b t p q u) (ho : Only g v w) (hb : b < v.heap.size) (hne : b ≠ g) : EAt w b t p q u := by
  obtain ⟨h1, h2, h3, h4, g1, g2, g3, g4⟩ := h
  have e := ho.keep b hb hne
  have hf : ∀ j, w.frozen? ⟨b, j, none⟩ = v.frozen? ⟨b, j, none⟩ := fun j => by simp [World.frozen?, e]
  exact ⟨by rw [World.cell?_of_block (w := v) (a := ⟨b, 0, none⟩) e]; exact h1, by rw [World.cell?_of_block (w := v) (a := ⟨b, 1, none⟩) e]; exact h2, by rw [World.cell?_of_block (w := v) (a := ⟨b, 2, none⟩) e]; exact h3, by rw [World.cell?_of_block (w := v) (a := ⟨b, 3, none⟩) e]; exact h4,
    by rw [hf]; exact g1, by rw [hf]; exact g2, by rw [hf]; exact g3, by rw [hf]; exact g4⟩
theorem EAt.put0 {w : World} {b : Nat} {t p t' : ByteArray} {q : Int} {u : Value} (h : EAt w b t p q u) : EAt (w.setCell ⟨b, 0, none⟩ (.string t')) b t' p q u := by
  obtain ⟨h1, h2, h3, h4, g1, g2, g3, g4⟩ := h
  constructor <;> simp [cell_setCell, frozen_setCell, h1, h2, h3, h4, g1, g2, g3, g4]
theorem EAt.put1 {w : World} {b : Nat} {t p p' : ByteArray} {q : Int} {u : Value} (h : EAt w b t p q u) : EAt (w.setCell ⟨b, 1, none⟩ (.string p')) b t p' q u := by
  obtain ⟨h1, h2, h3, h4, g1, g2, g3, g4⟩ := h
  constructor <;> simp [cell_setCell, frozen_setCell, h1, h2, h3, h4, g1, g2, g3, g4]
theorem EAt.put2 {w : World} {b : Nat} {t p : ByteArray} {q q' : Int} {u : Value} (h : EAt w b t p q u) : EAt (w.setCell ⟨b, 2, none⟩ (.int .u64 q')) b t p q' u := by
  obtain ⟨h1, h2, h3, h4, g1, g2, g3, g4⟩ := h
  constructor <;> simp [cell_setCell, frozen_setCell, h1, h2, h3, h4, g1, g2, g3, g4]
theorem EAt.away {w : World} {b c o : Nat} {t p : ByteArray} {q : Int} {u x : Value} (h : EAt w b t p q u) (hn : c ≠ b) : EAt (w.setCell ⟨c, o, none⟩ x) b t p q u := by
  obtain ⟨h1, h2, h3, h4, g1, g2, g3, g4⟩ := h
  constructor <;> simp [cell_setCell, frozen_setCell, hn, h1, h2, h3, h4, g1, g2, g3, g4]
/-- what event.Take holds while it goes on: the result's box, the reader, the event -/
structure TkW (w X : World) (s : ByteArray) (a e : Nat) (t p : ByteArray) (q : Int) (v : Value) : Prop where
  r : RAt X (w.heap.size + 1) s a e
  z : EAt X w.heap.size ⟨#[]⟩ ⟨#[]⟩ 0 (.slice none 0 0)
  ev : EAt X (w.heap.size + 1 + 1) t p q v
  b : Below w.heap.size w X
  hz : w.heap.size + 3 ≤ X.heap.size
theorem RAt.away {w : World} {g c o : Nat} {s : ByteArray} {a e : Nat} {u : Value} (h : RAt w g s a e) (hc : c ≠ g) : RAt (w.setCell ⟨c, o, none⟩ u) g s a e := by
  obtain ⟨h0, h1, h2, h3, h4, h5⟩ := h
  constructor <;> simp [cell_setCell, frozen_setCell, hc, h0, h1, h2, h3, h4, h5]
theorem TkW.only {w X Y : World} {s : ByteArray} {a e a' e' : Nat} {t p : ByteArray} {q : Int} {v : Value} (h : TkW w X s a e t p q v) (hr : RAt Y (w.heap.size + 1) s a' e') (ho : Only (w.heap.size + 1) X Y) : TkW w Y s a' e' t p q v := by
  have := h.hz
  exact ⟨hr, h.z.only ho (by omega) (by omega), h.ev.only ho (by omega) (by omega), h.b.trans (ho.below.mono (by omega)), Nat.le_trans this ho.below.size⟩
theorem TkW.grow {w X Y : World} {s : ByteArray} {a e : Nat} {t p : ByteArray} {q : Int} {v : Value} (h : TkW w X s a e t p q v) (hb : Below X.heap.size X Y) : TkW w Y s a e t p q v := by
  have := h.hz
  exact ⟨h.r.grow hb, h.z.grow (by omega) hb, h.ev.grow (by omega) hb, h.b.trans (hb.mono (by omega)), Nat.le_trans this hb.size⟩
theorem TkW.put0 {w X : World} {s : ByteArray} {a e : Nat} {t p t' : ByteArray} {q : Int} {v : Value} (h : TkW w X s a e t p q v) : TkW w (X.setCell ⟨w.heap.size + 1 + 1, 0, none⟩ (.string t')) s a e t' p q v :=
  ⟨h.r.away (by omega), h.z.away (by omega), h.ev.put0, h.b.setCell (p := ⟨w.heap.size + 1 + 1, 0, none⟩) (by simp; omega) _, by have := h.hz; simp; omega⟩
theorem TkW.put1 {w X : World} {s : ByteArray} {a e : Nat} {t p p' : ByteArray} {q : Int} {v : Value} (h : TkW w X s a e t p q v) : TkW w (X.setCell ⟨w.heap.size + 1 + 1, 1, none⟩ (.string p')) s a e t p' q v :=
  ⟨h.r.away (by omega), h.z.away (by omega), h.ev.put1, h.b.setCell (p := ⟨w.heap.size + 1 + 1, 1, none⟩) (by simp; omega) _, by have := h.hz; simp; omega⟩
theorem TkW.put2 {w X : World} {s : ByteArray} {a e : Nat} {t p : ByteArray} {q q' : Int} {v : Value} (h : TkW w X s a e t p q v) : TkW w (X.setCell ⟨w.heap.size + 1 + 1, 2, none⟩ (.int .u64 q')) s a e t p q' v :=
  ⟨h.r.away (by omega), h.z.away (by omega), h.ev.put2, h.b.setCell (p := ⟨w.heap.size + 1 + 1, 2, none⟩) (by simp; omega) _, by have := h.hz; simp; omega⟩
theorem TkW.put3 {w X : World} {s : ByteArray} {a e : Nat} {t p : ByteArray} {q : Int} {v v' : Value} (h : TkW w X s a e t p q v) : TkW w (X.setCell ⟨w.heap.size + 1 + 1, 3, none⟩ v') s a e t p q v' :=
  ⟨h.r.away (by omega), h.z.away (by omega), h.ev.set3, h.b.setCell (p := ⟨w.heap.size + 1 + 1, 3, none⟩) (by simp; omega) _, by have := h.hz; simp; omega⟩
theorem TkW.err {w X : World} {s : ByteArray} {a e e' : Nat} {t p : ByteArray} {q : Int} {v : Value} (h : TkW w X s a e t p q v) : TkW w (X.setCell ⟨w.heap.size + 1, 2, none⟩ (.int .i64 e')) s a e' t p q v :=
  ⟨h.r.set2, h.z.away (by omega), h.ev.away (by omega), h.b.setCell (p := ⟨w.heap.size + 1, 2, none⟩) (by simp) _, by have := h.hz; simp; omega⟩
theorem TkW.far {w X : World} {s : ByteArray} {a e c o : Nat} {t p : ByteArray} {q : Int} {v u : Value} (h : TkW w X s a e t p q v) (hc : w.heap.size + 3 ≤ c) : TkW w (X.setCell ⟨c, o, none⟩ u) s a e t p q v :=
  ⟨h.r.away (by omega), h.z.away (by omega), h.ev.away (by omega), h.b.setCell (p := ⟨c, o, none⟩) (by simp; omega) _, by have := h.hz; simp; omega⟩
/-- a row of fields of the call's own, which may be written -/
structure FR (X : World) (B : Nat) (a : Option Addr) (L : List FB) : Prop where
  fl : Flds X a L
  own : ∀ A, a = some A → A = ⟨A.block, 0, none⟩ ∧ B ≤ A.block ∧ A.block < X.heap.size ∧ ∀ j, X.frozen? ⟨A.block, j, none⟩ = false
theorem FR.only {X Y : World} {B g : Nat} {a : Option Addr} {L : List FB} (h : FR X B a L) (ho : Only g X Y) (hg : g < B) : FR Y B a L := by
  refine ⟨fun i hi => ?_, fun A hA => ?_⟩
  · obtain ⟨b, o, h1, h2, h3⟩ := h.fl i hi
    obtain ⟨_, g2, _⟩ := h.own _ h1
    exact ⟨b, o, h1, Nat.lt_of_lt_of_le h2 ho.below.size, h3.of_block (ho.keep b h2 (by have g2' : B ≤ b := g2; omega))⟩
  · obtain ⟨g1, g2, g3, g4⟩ := h.own A hA
    refine ⟨g1, g2, Nat.lt_of_lt_of_le g3 ho.below.size, fun j => ?_⟩
    have e := ho.keep A.block g3 (by omega)
    have := g4 j
    simpa [World.frozen?, e] using this
theorem FR.away {X : World} {B c o : Nat} {a : Option Addr} {L : List FB} {u : Value} (h : FR X B a L) (hc : c < B) : FR (X.setCell ⟨c, o, none⟩ u) B a L := by
  refine ⟨fun i hi => ?_, fun A hA => ?_⟩
  · obtain ⟨b, o', h1, h2, h3⟩ := h.fl i hi
    obtain ⟨_, g2, _⟩ := h.own _ h1
    have hne : c ≠ b := by have g2' : B ≤ b := g2; omega
    obtain ⟨k0, k1, k2, k3⟩ := h3
    exact ⟨b, o', h1, by simpa using h2, ⟨by simp [cell_setCell, hne, k0], by simp [cell_setCell, hne, k1], by simp [cell_setCell, hne, k2], by simp [cell_setCell, hne, k3]⟩⟩
  · obtain ⟨g1, g2, g3, g4⟩ := h.own A hA
    refine ⟨g1, g2, by simpa using g3, fun j => ?_⟩
    have hne : c ≠ A.block := by omega
    simp [frozen_setCell, g4 j]
theorem FR.grow {X Y : World} {B : Nat} {a : Option Addr} {L : List FB} (h : FR X B a L) (hb : Below X.heap.size X Y) : FR Y B a L :=
  ⟨h.fl.grow hb, fun A hA => by
    obtain ⟨g1, g2, g3, g4⟩ := h.own A hA
    exact ⟨g1, g2, Nat.lt_of_lt_of_le g3 hb.size, fun j => by rw [hb.frozen (p := ⟨A.block, j, none⟩) g3]; exact g4 j⟩⟩
theorem FR.name {X : World} {B F : Nat} {L : List FB} {i : Nat} (h : FR X B (some ⟨F, 0, none⟩) L) (hi : i < L.length) (nm : ByteArray) : FR (X.setCell ⟨F, i * 4, none⟩ (.string nm)) B (some ⟨F, 0, none⟩) (L.set i { L[i] with name := nm }) := by
  refine ⟨fun j hj => ?_, fun A hA => ?_⟩
  · rw [List.length_set] at hj
    obtain ⟨hb, k0, k1, k2, k3⟩ := h.fl.at hj
    rw [Nat.zero_add] at k0 k1 k2 k3
    refine ⟨F, 0, rfl, by simpa using hb, ?_⟩
    rw [Nat.zero_add]
    by_cases e : i = j
    · subst e
      rw [List.getElem_set_self]
      exact ⟨by simp [cell_setCell, k0], by simp [cell_setCell, k1], by simp [cell_setCell, k2], by simp [cell_setCell, k3]⟩
    · rw [List.getElem_set_ne e]
      have n0 : ¬ i * 4 = j * 4 := by omega
      have n1 : ¬ i * 4 = j * 4 + 1 := by omega
      have n2 : ¬ i * 4 = j * 4 + 2 := by omega
      have n3 : ¬ i * 4 = j * 4 + 3 := by omega
      exact ⟨by simp [cell_setCell, n0, k0], by simp [cell_setCell, n1, k1], by simp [cell_setCell, n2, k2], by simp [cell_setCell, n3, k3]⟩
  · obtain ⟨g1, g2, g3, g4⟩ := h.own A hA
    exact ⟨g1, g2, by simpa using g3, fun j => by simp [frozen_setCell, g4 j]⟩
theorem FR.val {X : World} {B F : Nat} {L : List FB} {i : Nat} (h : FR X B (some ⟨F, 0, none⟩) L) (hi : i < L.length) (x : Bool) (n : Int) (s : ByteArray) :
    FR (((X.setCell ⟨F, i * 4 + 1, none⟩ (.bool x)).setCell ⟨F, i * 4 + 2, none⟩ (.int .i64 n)).setCell ⟨F, i * 4 + 3, none⟩ (.string s)) B (some ⟨F, 0, none⟩) (L.set i ⟨L[i].name, x, n, s⟩) := by
  refine ⟨fun j hj => ?_, fun A hA => ?_⟩
  · rw [List.length_set] at hj
    obtain ⟨hb, k0, k1, k2, k3⟩ := h.fl.at hj
    rw [Nat.zero_add] at k0 k1 k2 k3
    refine ⟨F, 0, rfl, by simpa using hb, ?_⟩
    rw [Nat.zero_add]
    by_cases e : i = j
    · subst e
      rw [List.getElem_set_self]
      exact ⟨by simp [cell_setCell, k0], by simp [cell_setCell, k1], by simp [cell_setCell, k2], by simp [cell_setCell, k3]⟩
    · rw [List.getElem_set_ne e]
      have e4 : ¬ i * 4 = j * 4 := by omega
      have m01 : ¬ i * 4 = j * 4 + 1 := by omega
      have m02 : ¬ i * 4 = j * 4 + 2 := by omega
      have m03 : ¬ i * 4 = j * 4 + 3 := by omega
      have m10 : ¬ i * 4 + 1 = j * 4 := by omega
      have m12 : ¬ i * 4 + 1 = j * 4 + 2 := by omega
      have m13 : ¬ i * 4 + 1 = j * 4 + 3 := by omega
      have m20 : ¬ i * 4 + 2 = j * 4 := by omega
      have m21 : ¬ i * 4 + 2 = j * 4 + 1 := by omega
      have m23 : ¬ i * 4 + 2 = j * 4 + 3 := by omega
      have m30 : ¬ i * 4 + 3 = j * 4 := by omega
      have m31 : ¬ i * 4 + 3 = j * 4 + 1 := by omega
      have m32 : ¬ i * 4 + 3 = j * 4 + 2 := by omega
      exact ⟨by simp [cell_setCell, e4, m01, m02, m03, m10, m12, m13, m20, m21, m23, m30, m31, m32, k0], by simp [cell_setCell, e4, m01, m02, m03, m10, m12, m13, m20, m21, m23, m30, m31, m32, k1], by simp [cell_setCell, e4, m01, m02, m03, m10, m12, m13, m20, m21, m23, m30, m31, m32, k2], by simp [cell_setCell, e4, m01, m02, m03, m10, m12, m13, m20, m21, m23, m30, m31, m32, k3]⟩
  · obtain ⟨g1, g2, g3, g4⟩ := h.own A hA
    exact ⟨g1, g2, by simpa using g3, fun j => by simp [frozen_setCell, g4 j]⟩
def fbOf (f : Fld) : FB := ⟨⟨f.name.toArray⟩, f.v.num, f.v.n, ⟨f.v.s.toArray⟩⟩
theorem fld_of (f : Fld) : (fbOf f).fld = f := by
  obtain ⟨n, b, i, s⟩ := f
  simp [fbOf, FB.fld]
theorem map_fld_of (l : List Fld) : (l.map fbOf).map FB.fld = l := by
  induction l with
  | nil => rfl
  | cons f l ih => rw [List.map_cons, List.map_cons, fld_of, ih]
theorem rfld_le (l : List UInt8) (a e : Nat) (ha : a ≤ l.length) : (rfld l (a, e)).2.1 ≤ l.length ∧ (rfld l (a, e)).1.name.length ≤ 16 ∧ (rfld l (a, e)).1.v.s.length ≤ 60 ∧ (rfld l (a, e)).1.v.Fits := by
  unfold rfld
  obtain ⟨h1, h2⟩ := rtext_le l 16 a e ha
  generalize rtext l 16 (a, e) = r at *
  obtain ⟨t, b, c⟩ := r
  obtain ⟨g1, g2, g3⟩ := rval_le l b c h2
  exact ⟨g1, h1, g2, g3⟩
end Tryst
namespace Go.Proofs.YtmmdblpoecidaaaGreatDoor
open Go.RowKit Tryst
set_option maxHeartbeats 400000
set_option maxRecDepth 20000
def zeroF (n : Nat) : Array Value := ((List.replicate n FB.zero).flatMap FB.cells).toArray
theorem makeN (n : Nat) (h0 : 0 < n) (h8 : n ≤ 8) : ∀ w : World, (Instr.makeSlice 53 (.int .u64 n) (.int .u64 n)).run Tryz.prog w = .ok (.slice (some ⟨w.heap.size, 0, none⟩) n n) (w.alloc (.cells (zeroF n) 52)) := by
  have h : n = 1 ∨ n = 2 ∨ n = 3 ∨ n = 4 ∨ n = 5 ∨ n = 6 ∨ n = 7 ∨ n = 8 := by omega
  rcases h with rfl | rfl | rfl | rfl | rfl | rfl | rfl | rfl <;> (intro w; kernel_rfl)
theorem zeroRow (w : World) (n : Nat) (T : TypeId) : FR (w.alloc (.cells (zeroF n) T)) w.heap.size (some ⟨w.heap.size, 0, none⟩) (List.replicate n FB.zero) := by
  have hb : (w.alloc (.cells (zeroF n) T)).heap[w.heap.size]? = some (.cells (zeroF n) T (0, 0)) := by show (w.heap.push _)[_]? = _; simp
  refine ⟨fun i hi => ⟨w.heap.size, 0, rfl, by simp, ?_⟩, fun A hA => ?_⟩
  · rw [Nat.zero_add]
    have hc : ∀ j, j < 4 → (w.alloc (.cells (zeroF n) T)).cell? ⟨w.heap.size, i * 4 + j, none⟩ = ((List.replicate n FB.zero)[i]).cells[j]? := fun j hj => by
      rw [Lib.cell_of_heap hb, ← flat_at _ i hi j hj]
      simp [zeroF]
    exact ⟨hc 0 (by omega), hc 1 (by omega), hc 2 (by omega), hc 3 (by omega)⟩
  · obtain rfl : (⟨w.heap.size, 0, none⟩ : Addr) = A := by simpa using hA
    exact ⟨rfl, Nat.le_refl _, by simp, fun j => Lib.frozen_of_heap hb j⟩
def TakeR (w : World) (E : Ev) (k e : Nat) (x : Ending) (w' : World) : Prop :=
  ∃ a c, x = .returned (.tuple #[.agg #[.string ⟨E.topic.toArray⟩, .string ⟨E.prod.toArray⟩, .int .u64 E.seq, .slice a E.l.length c], .int .i64 k, .int .i64 e]) ∧ Flds w' a (E.l.map fbOf) ∧ Sl a c E.l.length ∧ Below w.heap.size w w'
def TkRel (w : World) (s : ByteArray) (t p : ByteArray) (q : Int) (ad : Option Addr) (N : Nat) (R : List Fld × (Nat × Nat)) (i : Value) (X : World) : Prop :=
  ∃ (k a e : Nat) (got : List Fld), k ≤ N ∧ i = .int .i64 k ∧ got.length = k ∧ a ≤ s.size ∧ e ≤ 3 ∧ Hid (R = (got ++ (rflds s.data.toList (N - k) (a, e)).1, (rflds s.data.toList (N - k) (a, e)).2)) ∧ Hid (∀ f ∈ got, f.name.length ≤ 16 ∧ f.v.s.length ≤ 60 ∧ f.v.Fits) ∧
    Hid (TkW w X s a e t p q (.slice ad N N)) ∧ Hid (FR X (w.heap.size + 3) ad (got.map fbOf ++ List.replicate (N - k) FB.zero))
theorem _root_.Tryst.FR.lower {X : World} {B C : Nat} {a : Option Addr} {L : List FB} (h : FR X B a L) (hC : C ≤ B) : FR X C a L :=
  ⟨h.fl, fun A hA => by
    obtain ⟨g1, g2, g3, g4⟩ := h.own A hA
    exact ⟨g1, by omega, g3, g4⟩⟩
theorem rval_err3 (l : List UInt8) (a e : Nat) (he : e ≤ 3) : (rval l (a, e)).2.2 ≤ 3 := by
  unfold rval
  split
  · exact he
  · show (takeV (l.drop a)).2.2 ≤ 3
    unfold takeV
    split
    · exact Nat.le_refl 3
    · rename_i c r _
      split
      · simp
      · split
        · rcases unp_err r with h | h | h
          · rename_i h2; exact absurd h h2
          · rw [h]; simp
          · rw [h]; simp
        · split
          · simp
          · split
            · simp
            · split <;> simp
theorem tk_rel {l : List UInt8} {R : List Fld × (Nat × Nat)} {got : List Fld} {N k a e a' e' : Nat} {f : Fld} (h : R = (got ++ (rflds l (N - k) (a, e)).1, (rflds l (N - k) (a, e)).2)) (hk : k < N) (hf : rfld l (a, e) = (f, (a', e'))) :
    R = ((got ++ [f]) ++ (rflds l (N - (k + 1)) (a', e')).1, (rflds l (N - (k + 1)) (a', e')).2) := by
  rw [h, show N - k = (N - (k + 1)) + 1 by omega]
  show (got ++ ((rfld l (a, e)).1 :: (rflds l (N - (k + 1)) (rfld l (a, e)).2).1), (rflds l (N - (k + 1)) (rfld l (a, e)).2).2) = _
  rw [hf]
  simp
theorem tk_list (got : List Fld) (f : Fld) (N : Nat) {k : Nat} (hg : got.length = k) (hk : k < N) : ∀ (x : FB), ((got.map fbOf ++ List.replicate (N - k) FB.zero).set k x).set k (fbOf f) = (got ++ [f]).map fbOf ++ List.replicate (N - (k + 1)) FB.zero := by
  intro x
  rw [List.set_set, List.set_append_right _ _ (by simp; omega), show N - k = (N - (k + 1)) + 1 by omega, List.replicate_succ]
  simp [hg]
end Go.Proofs.YtmmdblpoecidaaaGreatDoor
