/- The walk of the law TopicKeeps. -/
import Derived.Test.YtcbnehplilpidaaProg
import Derived.WalkKit
import Derived.WalkSpells
import Derived.WalkLawsBesides
import Derived.Lib.Hide
import Derived.Deep.RegionWith
import Derived.Deep.Cut
import Derived.IntWalk
import Derived.Test.YtcbnehplilpidaaMapS
import Derived.Test.YtcbnehplilpidaaKeepP
import Derived.Test.YtcbnehplilpidaaAppO
import Derived.Test.YtcbnehplilpidaaEv3O
import Derived.Test.YtcbnehplilpidaaTopQ
import Derived.Test.YtcbnehplilpidaaEvC
import Derived.Test.YtcbnehplilpidaaAw4s
set_option linter.unusedVariables false
set_option linter.unusedSimpArgs false
namespace Tryst
open Go Go.RowKit Go.Proofs.Ytcbnehplilpidaa
/-- an event in a slice of them -/
structure EB where
  t : ByteArray
  p : ByteArray
  q : Int
  a : Option Addr
  l : List FB
  c : Nat
def EB.cells (e : EB) : List Value := [.string e.t, .string e.p, .int .u64 e.q, .slice e.a e.l.length e.c]
def EB.ev (e : EB) : Ev := evE e.t e.p e.q e.l
theorem EB.cells_len (l : List EB) : ∀ x ∈ l.map EB.cells, x.length = 4 := by
  intro x hx
  obtain ⟨e, _, rfl⟩ := List.mem_map.1 hx
  rfl
/-- events of an argument -/
def EvsA (w : World) (a : Option Addr) (l : List EB) : Prop := Row w a 4 (l.map EB.cells) ∧ ∀ e ∈ l, Flds w e.a e.l
theorem EvsA.grow {v w : World} {a : Option Addr} {l : List EB} (h : EvsA v a l) (hw : Below v.heap.size v w) : EvsA w a l := ⟨h.1.grow hw, fun e he => (h.2 e he).grow hw⟩
def EArg (l : List EB) : Prop := ∀ e ∈ l, e.t.size ≤ 9223372036854775807 ∧ e.p.size ≤ 9223372036854775807 ∧ 0 ≤ e.q ∧ e.q ≤ 18446744073709551615 ∧ (∀ f ∈ e.l, f.name.size ≤ 9223372036854775807 ∧ f.s.size ≤ 9223372036854775807 ∧ -9223372036854775808 ≤ f.n ∧ f.n ≤ 9223372036854775807) ∧ e.l.length ≤ 9223372036854775807
theorem EvsA.at {w : World} {b o : Nat} {l : List EB} (h : EvsA w (some ⟨b, o, none⟩) l) {i : Nat} (hi : i < l.length) : b < w.heap.size ∧ w.cell? ⟨b, o + i * 4, none⟩ = some (.string l[i].t) ∧ w.cell? ⟨b, o + i * 4 + 1, none⟩ = some (.string l[i].p) ∧ w.cell? ⟨b, o + i * 4 + 2, none⟩ = some (.int .u64 l[i].q) ∧ w.cell? ⟨b, o + i * 4 + 3, none⟩ = some (.slice l[i].a l[i].l.length l[i].c) ∧ Flds w l[i].a l[i].l := by
  obtain ⟨h1, h2⟩ := h.1.at (i := i) (by simpa using hi)
  simp only [List.getElem_map] at h2
  exact ⟨h1, h2 0 (by omega), h2 1 (by omega), h2 2 (by omega), h2 3 (by omega), h.2 _ (List.getElem_mem hi)⟩
theorem EvsA.head {w : World} {a : Option Addr} {l : List EB} (h : EvsA w a l) {i : Nat} (hi : i < l.length) : ∃ b o, a = some ⟨b, o, none⟩ ∧ b < w.heap.size := h.1.head (by simpa using hi)
theorem Kp.tin {l : List TB} {A : List UInt8 → List Ev} {F : List UInt8 → Nat} (h : Kp (l.map TB.tp) A F) : l.length ≤ 20 ∧ TIn l := by
  have hok := topsMay_parts.1 h.ok
  refine ⟨by simpa using hok.1, fun t ht => ?_⟩
  have hm := okT_mem hok.2 t.tp (List.mem_map.2 ⟨t, ht, rfl⟩)
  unfold tMay at hm
  simp only [Bool.and_eq_true, decide_eq_true_eq] at hm
  obtain ⟨m1, m2, m3, m4, _⟩ := hm
  obtain ⟨_, _, _, p4⟩ := h.at' t.tp (List.mem_map.2 ⟨t, ht, rfl⟩)
  have h40 : t.name.data.toList.length ≤ 40 := by
    rw [topicB_eq] at m1
    simp only [Bool.and_eq_true, decide_eq_true_eq] at m1
    exact m1.1
  have hsz : t.name.size = t.name.data.toList.length := rfl
  change t.log.length ≤ 100 at m3
  change 0 ≤ t.first at m2
  change t.first ≤ 1099511627775 - (t.log.length : Int) at m4
  refine ⟨by omega, fun s hs => ?_, by omega, by omega, by omega⟩
  change t.log = _ at p4
  rw [p4] at hs
  obtain ⟨e, he, rfl⟩ := List.mem_map.1 hs
  obtain ⟨h1, h2, _⟩ := h.ev _ e (List.mem_of_mem_drop he)
  have := elay_le h1
  show e.lay.toArray.size ≤ _
  simp; omega
theorem ne_map {w : World} {g b o : Nat} {es : Array MapEntry} {c : Nat} {v : Value} (hm : w.heap[g]? = some (.map es c)) (hc : w.cell? ⟨b, o, none⟩ = some v) : b ≠ g := by
  intro e
  subst e
  unfold World.cell? at hc
  rw [hm] at hc
  cases hc
theorem MapS.isMap {P : Program} {k : TypeId} {w : World} {b n : Nat} {z : Value} {f : List UInt8 → Value} {p : List UInt8 → Bool} (h : MapS P k w b n z f p) : ∃ es c, w.heap[b]? = some (.map es c) := by
  obtain ⟨D, ⟨es, c, h1, _⟩, _⟩ := h
  exact ⟨es, c, h1⟩
/-- block g alone has turned; it is no cell's block -/
structure Turn (g : Nat) (w w' : World) : Prop where
  size : w.heap.size ≤ w'.heap.size
  block : ∀ k, k < w.heap.size → k ≠ g → w'.heap[k]? = w.heap[k]?
theorem Turn.of {g : Nat} {w w' : World} (h : w.grownBy w' (some g)) : Turn g w w' := ⟨h.size, fun k hk hg => h.block k hk (fun e => hg (by cases e; rfl))⟩
theorem Turn.cell {g : Nat} {w w' : World} (h : Turn g w w') {b o : Nat} (hb : b < w.heap.size) (hg : b ≠ g) : w'.cell? ⟨b, o, none⟩ = w.cell? ⟨b, o, none⟩ := World.cell?_of_block (w := w) (a := ⟨b, o, none⟩) (h.block b hb hg)
theorem Turn.frozen {g : Nat} {w w' : World} (h : Turn g w w') {b o : Nat} (hb : b < w.heap.size) (hg : b ≠ g) : w'.frozen? ⟨b, o, none⟩ = w.frozen? ⟨b, o, none⟩ := World.frozen?_of_block (w := w) (a := ⟨b, o, none⟩) (h.block b hb hg)
theorem EAt.turn {g : Nat} {w w' : World} {b : Nat} {t p : ByteArray} {q : Int} {v : Value} (h : EAt w b t p q v) (ht : Turn g w w') (hb : b < w.heap.size) (hg : b ≠ g) : EAt w' b t p q v := by
  obtain ⟨h1, h2, h3, h4, g1, g2, g3, g4⟩ := h
  exact ⟨by rw [ht.cell hb hg]; exact h1, by rw [ht.cell hb hg]; exact h2, by rw [ht.cell hb hg]; exact h3, by rw [ht.cell hb hg]; exact h4, by rw [ht.frozen hb hg]; exact g1, by rw [ht.frozen hb hg]; exact g2, by rw [ht.frozen hb hg]; exact g3, by rw [ht.frozen hb hg]; exact g4⟩
theorem Flds.turn {g : Nat} {w w' : World} {a : Option Addr} {l : List FB} (h : Flds w a l) (ht : Turn g w w') (hg : ∀ b o, a = some ⟨b, o, none⟩ → 0 < l.length → b ≠ g) : Flds w' a l := by
  intro i hi
  obtain ⟨b, o, h1, h2, h3⟩ := h i hi
  obtain ⟨k0, k1, k2, k3⟩ := h3
  have hn := hg b o h1 (by omega)
  exact ⟨b, o, h1, Nat.lt_of_lt_of_le h2 ht.size, by rw [ht.cell h2 hn]; exact k0, by rw [ht.cell h2 hn]; exact k1, by rw [ht.cell h2 hn]; exact k2, by rw [ht.cell h2 hn]; exact k3⟩
theorem Strs.turn {g : Nat} {w w' : World} {a : Option Addr} {l : List ByteArray} (h : Strs w a l) (ht : Turn g w w') (hg : ∀ b o, a = some ⟨b, o, none⟩ → 0 < l.length → b ≠ g) : Strs w' a l := by
  intro i hi
  obtain ⟨b, o, h1, h2, h3⟩ := h i hi
  exact ⟨b, o, h1, Nat.lt_of_lt_of_le h2 ht.size, by rw [ht.cell h2 (hg b o h1 (by omega))]; exact h3⟩
theorem Row.turn {g : Nat} {w w' : World} {a : Option Addr} {k : Nat} {l : List (List Value)} (h : Row w a k l) (ht : Turn g w w') (hg : ∀ b o, a = some ⟨b, o, none⟩ → 0 < l.length → b ≠ g) : Row w' a k l := by
  intro i hi
  obtain ⟨b, o, h1, h2, h3⟩ := h i hi
  exact ⟨b, o, h1, Nat.lt_of_lt_of_le h2 ht.size, fun j hj => by rw [ht.cell h2 (hg b o h1 (by omega))]; exact h3 j hj⟩
theorem Tops.turn {g : Nat} {w w' : World} {a : Option Addr} {l : List TB} (h : Tops w a l) (ht : Turn g w w') (hg : ∀ b o, a = some ⟨b, o, none⟩ → 0 < l.length → b ≠ g) (hl : ∀ t ∈ l, ∀ b o, t.la = some ⟨b, o, none⟩ → 0 < t.log.length → b ≠ g) : Tops w' a l :=
  ⟨Row.turn h.1 ht (fun b o e hp => hg b o e (by simpa using hp)), fun t hx => ⟨(h.2 t hx).1.turn ht (hl t hx), (h.2 t hx).2⟩⟩
theorem own_turn {e : TypeId} {size n : Nat} {g : Nat} {w w' : World} {base : Nat} {v : Value} {xs : List Value} (h : w.ownsRow base e size v n xs) (ht : Turn g w w') (hg : g < base) : w'.ownsRow base e size v n xs :=
  own_stays h fun A n c hv => by
    have h1 := h.lt A.block (by rw [hv]; rfl)
    exact ht.block _ h1.2 (by omega)
theorem ROwn.turn {e : TypeId} {k : Nat} {g : Nat} {w w' : World} {base : Nat} {v : Value} {l : List (List Value)} (h : ROwn e k w base v l) (ht : Turn g w w') (hg : ∀ b o n c, v = .slice (some ⟨b, o, none⟩) n c → b ≠ g) : ROwn e k w' base v l := by
  rcases h.2 with ⟨rfl, _⟩ | ⟨g2, cap, cur, rfl, _⟩
  · exact own_stays h fun A n c hv => by cases hv
  · exact own_stays h fun A n c hv => by
      cases hv
      exact ht.block g2 (ROwn.lt0 h).2 (hg _ _ _ _ rfl)
/-- where its elements lie, no map does -/
theorem Flds.nomap {w : World} {g : Nat} {es : Array MapEntry} {c : Nat} (hm : w.heap[g]? = some (.map es c)) {a : Option Addr} {l : List FB} (h : Flds w a l) : ∀ b o, a = some ⟨b, o, none⟩ → 0 < l.length → b ≠ g := by
  intro b o ha hl
  subst ha
  exact ne_map hm (h.at hl).2.c0
theorem Tops.nomap {w : World} {g : Nat} {es : Array MapEntry} {c : Nat} (hm : w.heap[g]? = some (.map es c)) {a : Option Addr} {l : List TB} (h : Tops w a l) : (∀ b o, a = some ⟨b, o, none⟩ → 0 < l.length → b ≠ g) ∧ ∀ t ∈ l, ∀ b o, t.la = some ⟨b, o, none⟩ → 0 < t.log.length → b ≠ g := by
  refine ⟨fun b o ha hl => ?_, fun t ht b o ha hl => ?_⟩
  · subst ha
    exact ne_map hm (h.at hl).2.1.c0
  · have h1 := (h.2 t ht).1
    rw [ha] at h1
    exact ne_map hm (h1.at hl).2
/-- a block of no cells -/
def NoCells (w : World) (g : Nat) : Prop := ∀ cs e f, w.heap[g]? ≠ some (.cells cs e f)
theorem ne_nocells {w : World} {g b o : Nat} {v : Value} (hm : NoCells w g) (hc : w.cell? ⟨b, o, none⟩ = some v) : b ≠ g := by
  intro e
  subst e
  unfold World.cell? at hc
  split at hc
  · rename_i h
    exact hm _ _ _ h
  · cases hc
theorem own_turn2 {e : TypeId} {size n : Nat} {g : Nat} {w w' : World} {base : Nat} {v : Value} {xs : List Value} (h : w.ownsRow base e size v n xs) (ht : Turn g w w') (hm : NoCells w g) : w'.ownsRow base e size v n xs :=
  own_stays h fun A n c hv => by
    obtain ⟨cur, hcur⟩ := own_typed h A n c hv
    exact ht.block _ (Array.getElem?_eq_some_iff.1 hcur).1 (fun e => hm _ _ _ (by rw [← e]; exact hcur))
theorem Tops.turn2 {g : Nat} {w w' : World} {a : Option Addr} {l : List TB} (h : Tops w a l) (ht : Turn g w w') (hm : NoCells w g) : Tops w' a l := by
  refine Tops.turn h ht (fun b o ha hl => ?_) (fun t hx b o ha hl => ?_)
  · subst ha
    exact ne_nocells hm (h.at hl).2.1.c0
  · have h1 := (h.2 t hx).1
    rw [ha] at h1
    exact ne_nocells hm (h1.at hl).2
theorem RangeS.nocells {P : Program} {k : TypeId} {w : World} {b r n cnt : Nat} {z : Value} {f : List UInt8 → Value} {p q : List UInt8 → Bool} (h : RangeS P k w b r n z f p q cnt) : NoCells w r := by
  obtain ⟨D, left, ⟨es, c, since, seen, c0, _, _, _, _, h5, _⟩, _⟩ := h
  intro cs e f h6
  rw [h5] at h6
  cases h6
end Tryst
namespace Go.Proofs.Ytcbnehplilpidaa
open Go.RowKit Tryst
set_option maxHeartbeats 400000
set_option maxRecDepth 20000
/-- what the three maps hold: how many events came of each topic, how many were trimmed, and the events -/
structure KM (wr : World) (b n : Nat) (A : List UInt8 → List Ev) (F : List UInt8 → Nat) (R : List UInt8 → List EB) (V : List UInt8 → Value) (G : List UInt8 → Bool) : Prop where
  me : MapS Try.prog 9 wr b n (.int .i64 0) (fun x => .int .i64 ((A x).length : Int)) (fun x => !(A x).isEmpty)
  mf : MapS Try.prog 9 wr (b + 1) n (.int .i64 0) (fun x => .int .i64 (F x : Int)) G
  ma : MapS Try.prog 9 wr (b + 1 + 1) n (.slice none 0 0) V (fun x => !(A x).isEmpty)
  ev : ∀ x, (R x).map EB.ev = A x
  tp : ∀ x, ∀ e ∈ R x, e.t.data.toList = x ∧ 0 ≤ e.q
  ow : ∀ x, ROwn 25 4 wr (b + 3) (V x) ((R x).map EB.cells)
  fl : ∀ x, ∀ e ∈ R x, FOwn 39 wr (b + 3) (.slice e.a e.l.length e.c) e.l
  z : ∀ x, R x = [] → V x = .slice none 0 0
theorem KM.grow {w w' : World} {b n : Nat} {A : List UInt8 → List Ev} {F : List UInt8 → Nat} {R : List UInt8 → List EB} {V : List UInt8 → Value} {G : List UInt8 → Bool} (h : KM w b n A F R V G) (hb : Below w.heap.size w w') : KM w' b n A F R V G :=
  ⟨h.me.grow hb, h.mf.grow hb, h.ma.grow hb, h.ev, h.tp, fun x => (h.ow x).grow hb, fun x e he => (h.fl x e he).grow hb, h.z⟩
/-- within a round, behind an append that went well: all but the maps -/
structure KX (w : World) (Gb : Nat) (T P : ByteArray) (q : Int) (a2 : Option Addr) (c2 : Nat) (L : List FB) (a3 : Option Addr) (l3 : List TB) (R : List UInt8 → List EB) (V : List UInt8 → Value) (v : World) : Prop where
  e : EAt v Gb T P q (.slice a2 L.length c2)
  f : FOwn 39 v (w.heap.size + 3) (.slice a2 L.length c2) L
  t : Tops v a3 l3
  ow : ∀ x, ROwn 25 4 v (w.heap.size + 3) (V x) ((R x).map EB.cells)
  fl : ∀ x, ∀ e ∈ R x, FOwn 39 v (w.heap.size + 3) (.slice e.a e.l.length e.c) e.l
  k : Below w.heap.size w v
  z : Gb < v.heap.size
theorem KX.grow {w v v' : World} {Gb : Nat} {T P : ByteArray} {q : Int} {a2 : Option Addr} {c2 : Nat} {L : List FB} {a3 : Option Addr} {l3 : List TB} {R : List UInt8 → List EB} {V : List UInt8 → Value} (h : KX w Gb T P q a2 c2 L a3 l3 R V v) (hb : Below v.heap.size v v') : KX w Gb T P q a2 c2 L a3 l3 R V v' :=
  ⟨h.e.grow h.z hb, h.f.grow hb, h.t.grow hb, fun x => (h.ow x).grow hb, fun x e he => (h.fl x e he).grow hb, bstep hb h.k, Nat.lt_of_lt_of_le h.z hb.size⟩
theorem KX.mapped {w v v' : World} {Gb : Nat} {T P : ByteArray} {q : Int} {a2 : Option Addr} {c2 : Nat} {L : List FB} {a3 : Option Addr} {l3 : List TB} {R : List UInt8 → List EB} {V : List UInt8 → Value} (h : KX w Gb T P q a2 c2 L a3 l3 R V v) {g : Nat} (hg : v.grownBy v' (some g)) (hm : ∃ es c, v.heap[g]? = some (.map es c)) (h1 : w.heap.size ≤ g) (h2 : g < w.heap.size + 3) : KX w Gb T P q a2 c2 L a3 l3 R V v' := by
  obtain ⟨es, c, hm⟩ := hm
  have ht := Turn.of hg
  have hn := h.t.nomap hm
  have hgl : g < v.heap.size := (Array.getElem?_eq_some_iff.1 hm).1
  exact ⟨h.e.turn ht h.z (ne_map hm h.e.c0), own_turn h.f ht (by omega), h.t.turn ht hn.1 hn.2, fun x => own_turn (h.ow x) ht (by omega), fun x e he => own_turn (h.fl x e he) ht (by omega), h.k.grown hg (by have := h.k.size; omega) (fun k hk => by cases hk; exact h1), Nat.lt_of_lt_of_le h.z ht.size⟩
theorem KX.app {w v v' : World} {Gb : Nat} {T P : ByteArray} {q : Int} {a2 : Option Addr} {c2 : Nat} {L : List FB} {a3 : Option Addr} {l3 : List TB} {R : List UInt8 → List EB} {V : List UInt8 → Value} (h : KX w Gb T P q a2 c2 L a3 l3 R V v) {x : List UInt8} {g : Nat} {C : Obj} {f : List Value} (hx : Tryst3.Ext g C v v') (hC : Tryst3.AppC 25 4 v (V x) ((R x).map EB.cells) f g C) {v2 : Value} {E : EB} (hE : E = ⟨T, P, q, a2, L, c2⟩) (hq : ROwn 25 4 v' (w.heap.size + 3) v2 ((R x).map EB.cells ++ [E.cells]))
    (hgb : ∀ (x : List UInt8) (b o n c : Nat), V x = .slice (some ⟨b, o, none⟩) n c → b < Gb) {B : Nat} (hnl : NewL B l3) (hn3 : ∀ b o, a3 = some ⟨b, o, none⟩ → B ≤ b) (hGB : Gb < B) (htp : ∀ x, ∀ e ∈ R x, e.t.data.toList = x) (hzz : ∀ x, R x = [] → V x = .slice none 0 0) (hy : w.heap.size + 3 ≤ Gb) :
    KX w Gb T P q a2 c2 L a3 l3 (upd R x (R x ++ [E])) (upd V x v2) v' := by
  subst hE
  have main : (FOwn 39 v' (w.heap.size + 3) (.slice a2 L.length c2) L ∧ EAt v' Gb T P q (.slice a2 L.length c2) ∧ Tops v' a3 l3 ∧ Below w.heap.size w v') ∧ (∀ y, y ≠ x → ROwn 25 4 v' (w.heap.size + 3) (V y) ((R y).map EB.cells)) ∧ ∀ y, ∀ e ∈ R y, FOwn 39 v' (w.heap.size + 3) (.slice e.a e.l.length e.c) e.l := by
    rcases hC with ⟨cap, cur, hv, hlen, hcs, hh, _⟩ | ⟨_, hh⟩
    · have ht : Turn g v v' := ⟨hx.size, hx.block⟩
      have hgG := hgb x g 0 _ _ hv
      have hfld : ∀ {a : Option Addr} {l : List FB} {c : Nat}, FOwn 39 v (w.heap.size + 3) (.slice a l.length c) l → FOwn 39 v' (w.heap.size + 3) (.slice a l.length c) l := fun {a l c} hf => own_stays hf fun A n c hv => ht.block _ (hf.lt _ (by rw [hv]; rfl)).2 (typed_ne hf hh (by decide) A n c hv)
      have hgw : w.heap.size + 3 ≤ g := by
        have h5 := h.ow x
        rw [hv] at h5
        exact (ROwn.lt0 h5).1
      have hcell : ∀ (y : List UInt8) (b o n c : Nat), V y = .slice (some ⟨b, o, none⟩) n c → ∃ s : ByteArray, s.data.toList = y ∧ v.cell? ⟨b, 0, none⟩ = some (.string s) := fun y b o n c hvy => by
        have hne : R y ≠ [] := fun e => by rw [hzz y e] at hvy; cases hvy
        have hpos : 0 < (R y).length := List.length_pos_iff.2 hne
        obtain ⟨g', c', hv', _, _, _, hat, _⟩ := ROwn.block (h.ow y) (EB.cells_len _) (by simpa using hpos)
        rw [hvy] at hv'
        cases hv'
        have h6 := hat 0 (by simpa using hpos) 0 (by decide)
        refine ⟨(R y)[0].t, htp y _ (List.getElem_mem _), ?_⟩
        simpa [EB.cells] using h6
      refine ⟨⟨hfld h.f, h.e.turn ht h.z (by omega), h.t.turn ht (fun b o e _ => by have := hn3 b o e; omega) (fun t ht' b o e _ => by have := hnl t ht' b o e; omega), ?_⟩, fun y hyx => ?_, fun y e he => hfld (h.fl y e he)⟩
      · exact h.k.trans (hx.below (by omega) h.k.size)
      · refine own_stays (h.ow y) fun A n c hvy => ?_
        obtain ⟨b, o, sp⟩ := A
        refine ht.block b ((h.ow y).lt _ (by rw [hvy]; rfl)).2 fun e => ?_
        have hsp : sp = none := by
          rcases (h.ow y).2 with ⟨h7, _⟩ | ⟨_, _, _, h7, _⟩
          · rw [hvy] at h7; cases h7
          · rw [hvy] at h7; cases h7; rfl
        subst hsp
        have e : b = g := e
        subst e
        obtain ⟨s1, e1, e2⟩ := hcell y b o n c hvy
        obtain ⟨s2, e3, e4⟩ := hcell x b 0 _ _ hv
        rw [e2] at e4
        cases e4
        exact hyx (e1.symm.trans e3)
    · have hb : Below v.heap.size v v' := ⟨hx.os, hx.tape, hx.output, hx.size, fun k hk => by
        by_cases e : k = g
        · subst e
          rcases hx.row with h5 | h5
          · exact h5
          · rw [h5, hh]
        · exact hx.block k hk e⟩
      have h2 := h.grow hb
      exact ⟨⟨h2.f, h2.e, h2.t, h2.k⟩, fun y _ => h2.ow y, h2.fl⟩
  obtain ⟨⟨m1, m2, m3, m4⟩, m5, m6⟩ := main
  refine ⟨m2, m1, m3, fun y => ?_, fun y e he => ?_, m4, Nat.lt_of_lt_of_le h.z hx.size⟩
  · unfold upd
    by_cases e : y = x
    · subst e
      simp only [if_true, List.map_append, List.map_cons, List.map_nil]
      exact hq
    · simp only [e, if_false]
      exact m5 y e
  · unfold upd at he
    by_cases e' : y = x
    · subst e'
      simp only [if_true] at he
      rcases List.mem_append.1 he with h7 | h7
      · exact m6 y e h7
      · simp at h7
        subst h7
        exact m1
    · simp only [e', if_false] at he
      exact m6 y e he
theorem fown_flds {e : TypeId} {w : World} {base : Nat} {a : Option Addr} {n c : Nat} {l : List FB} (h : FOwn e w base (.slice a n c) l) : Flds w a l := by
  obtain ⟨a', c', hv, hf, _⟩ := h.flds
  cases hv
  exact hf
theorem zInt (w : World) : (zeroValue 3).run Try.prog w = .ok (.int .i64 0) w := by kernel_rfl
theorem zEvs (w : World) : (zeroValue 76).run Try.prog w = .ok (.slice none 0 0) w := by kernel_rfl
theorem evT : SliceOf Try.prog 76 25 4 64 := .mk' Try.underlying76 (z := .agg #[.string ⟨#[]⟩, .string ⟨#[]⟩, .int .u64 0, .slice none 0 0]) (by kernel_rfl) rfl (by decide) (by decide)
/-- a new slice of one event -/
def OneE (g : Nat) (e : EB) (v : Value) (w : World) : Prop := ∃ g2, v = .slice (some ⟨g2, 0, none⟩) 1 1 ∧ g2 ≠ g ∧ g2 < w.heap.size ∧ ∀ j, j < 4 → w.cell? ⟨g2, j, none⟩ = e.cells[j]?
theorem oneE (g : Nat) (C : Obj) (e : EB) (T : TypeId) (w : World) (hg : g < w.heap.size) : Tryst3.Ext g C w (w.alloc (.cells #[.string e.t, .string e.p, .int .u64 e.q, .slice e.a e.l.length e.c] T)) ∧ ∃ w0, Tryst3.Ext g C w0 (w.alloc (.cells #[.string e.t, .string e.p, .int .u64 e.q, .slice e.a e.l.length e.c] T)) ∧ OneE g e (.slice (some ⟨w.heap.size, 0, none⟩) 1 1) w0 :=
  ⟨Tryst3.Ext.alloc g C w hg _, _, Tryst3.Ext.refl _ _ _, _, rfl, by omega, by simp, fun j hj => by
    match j, hj with
    | 0, _ => simp [go_sem, EB.cells]
    | 1, _ => simp [go_sem, EB.cells]
    | 2, _ => simp [go_sem, EB.cells]
    | 3, _ => simp [go_sem, EB.cells]⟩
theorem OneE.at {g : Nat} {C : Obj} {e : EB} {v : Value} {w' : World} (h : ∃ w0, Tryst3.Ext g C w0 w' ∧ OneE g e v w0) : ∃ g2, v = .slice (some ⟨g2, 0, none⟩) 1 1 ∧ ∀ j, j < 4 → w'.cell? ⟨g2, j, none⟩ = e.cells[j]? := by
  obtain ⟨w0, hx, g2, h1, h2, h3, h4⟩ := h
  exact ⟨g2, h1, fun j hj => by rw [hx.cell h3 h2]; exact h4 j hj⟩
theorem ends_upd {P : Program} {k : TypeId} {w : World} {b n : Nat} {z : Value} {A : List UInt8 → List Ev} {x : List UInt8} {E : Ev} (h : MapS P k w b n z (fun l => if l = x then .int .i64 (((A x).length : Int) + 1) else (fun y => Value.int .i64 ((A y).length : Int)) l) (fun l => decide (l = x) || (fun y => !(A y).isEmpty) l)) :
    MapS P k w b n z (fun y => .int .i64 ((upd A x (A x ++ [E]) y).length : Int)) (fun y => !(upd A x (A x ++ [E]) y).isEmpty) := by
  refine h.congr (fun y => ?_) (fun y => ?_)
  · unfold upd
    by_cases e : y = x
    · simp only [e, if_true, List.length_append, List.length_singleton]; rfl
    · simp only [e, if_false]
  · unfold upd
    by_cases e : y = x
    · simp [e]
    · simp [e]
theorem all_upd {P : Program} {k : TypeId} {w : World} {b n : Nat} {z v : Value} {A : List UInt8 → List Ev} {V : List UInt8 → Value} {x : List UInt8} {E : Ev} (h : MapS P k w b n z (fun l => if l = x then v else V l) (fun l => decide (l = x) || (fun y => !(A y).isEmpty) l)) :
    MapS P k w b n z (upd V x v) (fun y => !(upd A x (A x ++ [E]) y).isEmpty) := by
  refine h.congr (fun y => rfl) (fun y => ?_)
  unfold upd
  by_cases e : y = x
  · simp [e]
  · simp [e]
theorem firsts_upd {P : Program} {k : TypeId} {w : World} {b n : Nat} {z : Value} {F : List UInt8 → Nat} {G : List UInt8 → Bool} {x : List UInt8} {m : Nat} {v : Int} (hv : v = (max (F x) m : Nat)) (h : MapS P k w b n z (fun l => if l = x then .int .i64 v else (fun y => Value.int .i64 (F y : Int)) l) (fun l => decide (l = x) || G l)) :
    MapS P k w b n z (fun y => .int .i64 ((upd F x (max (F x) m) y : Nat) : Int)) (fun l => decide (l = x) || G l) := by
  refine h.congr (fun y => ?_) (fun y => rfl)
  unfold upd
  by_cases e : y = x
  · simp only [e, if_true, hv]
  · simp only [e, if_false]
/-- the loop over all topics -/
structure LK (w : World) (r n cnt : Nat) (A : List UInt8 → List Ev) (F : List UInt8 → Nat) (R : List UInt8 → List EB) (V : List UInt8 → Value) (G q : List UInt8 → Bool) (a : Option Addr) (l : List TB) (wr : World) : Prop where
  rg : RangeS Try.prog 9 wr (w.heap.size + 1 + 1) r n (.slice none 0 0) V (fun x => !(A x).isEmpty) q cnt
  km : KM wr w.heap.size n A F R V G
  t : Tops wr a l
  k : Below w.heap.size w wr
  hr : w.heap.size + 3 ≤ r
  hq : ∀ x, q x = true → A x ≠ []
theorem LK.grow {w v v' : World} {r n cnt : Nat} {A : List UInt8 → List Ev} {F : List UInt8 → Nat} {R : List UInt8 → List EB} {V : List UInt8 → Value} {G q : List UInt8 → Bool} {a : Option Addr} {l : List TB} (h : LK w r n cnt A F R V G q a l v) (hb : Below v.heap.size v v') : LK w r n cnt A F R V G q a l v' :=
  ⟨h.rg.grow hb, h.km.grow hb, h.t.grow hb, bstep hb h.k, h.hr, h.hq⟩
theorem KM.turn2 {w w' : World} {b n : Nat} {A : List UInt8 → List Ev} {F : List UInt8 → Nat} {R : List UInt8 → List EB} {V : List UInt8 → Value} {G : List UInt8 → Bool} (h : KM w b n A F R V G) {g : Nat} (hg : w.grownBy w' (some g)) (hm : NoCells w g) (hb : b + 3 ≤ g) : KM w' b n A F R V G := by
  have ht := Turn.of hg
  exact ⟨h.me.kept hg (by simp only [ne_eq, Option.some.injEq]; omega), h.mf.kept hg (by simp only [ne_eq, Option.some.injEq]; omega), h.ma.kept hg (by simp only [ne_eq, Option.some.injEq]; omega), h.ev, h.tp, fun x => own_turn2 (h.ow x) ht hm, fun x e he => own_turn2 (h.fl x e he) ht hm, h.z⟩
theorem LK.next {w v v' : World} {r n cnt cnt' : Nat} {A : List UInt8 → List Ev} {F : List UInt8 → Nat} {R : List UInt8 → List EB} {V : List UInt8 → Value} {G q q' : List UInt8 → Bool} {a : Option Addr} {l : List TB} (h : LK w r n cnt A F R V G q a l v) (hg : v.grownBy v' (some r)) (hr : RangeS Try.prog 9 v' (w.heap.size + 1 + 1) r n (.slice none 0 0) V (fun x => !(A x).isEmpty) q' cnt') (hq : ∀ x, q' x = true → q x = true) : LK w r n cnt' A F R V G q' a l v' :=
  ⟨hr, h.km.turn2 hg h.rg.nocells h.hr, h.t.turn2 (Turn.of hg) h.rg.nocells, h.k.grown hg (by have := h.k.size; omega) (fun j hj => by cases hj; have := h.hr; omega), h.hr, fun x hx => h.hq x (hq x hx)⟩
theorem fbOf_fld (f : FB) : fbOf f.fld = f := by
  obtain ⟨⟨⟨n⟩⟩, b, i, ⟨⟨s⟩⟩⟩ := f
  simp [fbOf, FB.fld]
theorem map_fbOf (l : List FB) : (l.map FB.fld).map fbOf = l := by
  rw [List.map_map]
  conv => rhs; rw [← List.map_id l]
  exact List.map_congr_left fun f _ => fbOf_fld f
theorem LK.evs {w v : World} {r n cnt : Nat} {A : List UInt8 → List Ev} {F : List UInt8 → Nat} {R : List UInt8 → List EB} {V : List UInt8 → Value} {G q : List UInt8 → Bool} {a : Option Addr} {l : List TB} (h : LK w r n cnt A F R V G q a l v) (x : List UInt8) : ∃ av cv, V x = .slice av (A x).length cv ∧ EvsA v av (R x) := by
  obtain ⟨av, cv, hV, hrow, _⟩ := ROwn.row (h.km.ow x) (EB.cells_len _) (by decide)
  have hl : (R x).length = (A x).length := by have := congrArg List.length (h.km.ev x); rw [List.length_map] at this; exact this
  rw [List.length_map, hl] at hV
  exact ⟨av, cv, hV, hrow, fun e he => fown_flds (h.km.fl x e he)⟩
theorem RdR.eb {w w' : World} {e : EB} (h0 : 0 ≤ e.q) {x : Ending} (h : RdR w e.ev 0 x w') : ∃ a c, x = .returned (.tuple #[.agg #[.string e.t, .string e.p, .int .u64 e.q, .slice a e.l.length c], .int .i64 0]) ∧ Flds w' a e.l ∧ Below w.heap.size w w' := by
  obtain ⟨a, c, h1, h2, _, h3⟩ := h
  refine ⟨a, c, ?_, ?_, h3⟩
  · rw [h1]
    show Ending.returned (.tuple #[.agg #[.string ⟨e.t.data.toList.toArray⟩, .string ⟨e.p.data.toList.toArray⟩, .int .u64 (e.q.toNat : Int), .slice a (e.l.map FB.fld).length c], .int .i64 ((0 : Nat) : Int)]) = _
    rw [Int.toNat_of_nonneg h0, List.length_map]
    simp
  · have h5 : (e.ev.l.map fbOf) = e.l := map_fbOf e.l
    rw [h5] at h2
    exact h2
def LRel (w : World) (r n : Nat) (A : List UInt8 → List Ev) (F : List UInt8 → Nat) (R : List UInt8 → List EB) (V : List UInt8 → Value) (G : List UInt8 → Bool) (a : Option Addr) (l : List TB) (wr : World) : Prop := ∃ (cnt : Nat) (q : List UInt8 → Bool), Hid (LK w r n cnt A F R V G q a l wr)
def IRel (w : World) (r n cnt m : Nat) (A : List UInt8 → List Ev) (F : List UInt8 → Nat) (R : List UInt8 → List EB) (V : List UInt8 → Value) (G q : List UInt8 → Bool) (a : Option Addr) (l : List TB) (i : Value) (wr : World) : Prop := ∃ j : Nat, j ≤ m ∧ i = .int .i64 j ∧ Hid (LK w r n cnt A F R V G q a l wr)
def KRel (w : World) (l5 i9 : Value) (wr : World) : Prop :=
  ∃ (k : Nat) (a : Option Addr) (c : Nat) (l : List TB) (A : List UInt8 → List Ev) (F : List UInt8 → Nat) (R : List UInt8 → List EB) (V : List UInt8 → Value) (G : List UInt8 → Bool),
    k ≤ 30 ∧ i9 = .int .i64 k ∧ l5 = .slice a l.length c ∧ Hid (Kp (l.map TB.tp) A F) ∧ Hid (Tops wr a l) ∧ Hid (Sl a c l.length) ∧ Hid (KM wr w.heap.size k A F R V G) ∧ Hid (Below w.heap.size w wr) ∧ Hid (∀ n, (A n).length ≤ k) ∧ w.heap.size + 3 ≤ wr.heap.size
set_option maxHeartbeats 4000000 in
theorem topicKeeps_c (ae : Option Addr) (l : List EB) (ce : Nat) (hI : EArg l) (hl : l.length ≤ 9223372036854775807) (au : Option Addr) (u : List Int) (cu : Nat) (hu : ∀ x ∈ u, 0 ≤ x ∧ x ≤ 255) (hul : u.length ≤ 9223372036854775807) (w : World) (hM : MaxW w) (hF : EvsA w ae l) (hU : Row w au 1 (u.map fun x => [Value.int .u8 x])) :
    Calls Try.prog 7 #[.slice ae l.length ce, .slice au u.length cu] w fun e w' => e = .returned (.bool true) ∧ Below w.heap.size w w' := by
  have HM := Lib.hid hM
  have HI := Lib.hid hI
  have HU := Lib.hid hu
  have HF := Lib.hid hF
  have HW := Lib.hid hU
  have m1 := Lib.hid (MapS.made Try.prog 9 w (.int .i64 0))
  have m2 := Lib.hid (MapS.made Try.prog 9 (w.alloc (.map #[] 0)) (.int .i64 0))
  have m3 := Lib.hid (MapS.made Try.prog 9 ((w.alloc (.map #[] 0)).alloc (.map #[] 0)) (.slice none 0 0))
  clear hM hI hu hF hU
  have hmm := @run_makeMap Try.prog
  go_enter Try.func7, Try.ntmps7
  go_wp2_with fail
  clear hmm
  have K0 : KRel w (.slice none 0 0) (.int .i64 0) (((w.alloc (.map #[] 0)).alloc (.map #[] 0)).alloc (.map #[] 0)) := by
    refine ⟨0, none, 0, [], fun _ => [], fun _ => 0, fun _ => [], fun _ => .slice none 0 0, fun _ => false, by omega, rfl, rfl, Kp.nil, Tops.nil _ _, ⟨Nat.le_refl _, fun A h => (by cases h), fun _ => rfl⟩, ?_, balloc _ (balloc _ (balloc _ (.refl _ _))), fun _ => Nat.le_refl _, by simp⟩
    have h1 := (m1.out.grow (balloc (.map #[] 0) (.refl _ _))).grow (balloc (.map #[] 0) (.refl _ _))
    have h2 := m2.out.grow (balloc (.map #[] 0) (.refl _ _))
    have h3 := m3.out
    rw [show (w.alloc (.map #[] 0)).heap.size = w.heap.size + 1 by simp] at h2
    rw [show ((w.alloc (.map #[] 0)).alloc (.map #[] 0)).heap.size = w.heap.size + 1 + 1 by simp] at h3
    exact ⟨h1, h2, h3, fun _ => rfl, fun _ e h => (by cases h), fun _ => ROwn.nil _ _ _ _, fun _ e h => (by cases h), fun _ _ => rfl⟩
  have HK0 := Lib.hid K0
  clear m1 m2 m3 K0
  go_loopw [5, 9] (fun l5 i9 wr => KRel w l5 i9 wr) (fun _ i _ => 30 - (intOf i).toNat)
  case atStart => exact HK0.out
  case round =>
    obtain ⟨k, a1, c1, l1, A, F, R, V, G, hk, rfl, rfl, HKP, HT, HS, HKM, HB, HN, hbz⟩ := hrel
    obtain ⟨wo, rfl⟩ : ∃ wo, wo = wr := ⟨_, rfl⟩
    clear HK0
    by_cases hlt : k < l.length ∧ k < 30
    · obtain ⟨hlt, hk30⟩ := hlt
      have HFo := Lib.hid (HF.out.grow HB.out)
      obtain ⟨b, o, ha, hb⟩ := HFo.out.head hlt
      obtain rfl : ae = some ⟨b, o, none⟩ := ha
      obtain ⟨_, c0, c1', c2, c3, hfl⟩ := HFo.out.at hlt
      obtain ⟨i1, i2, i3, i4, i5, i6⟩ := HI.out l[k] (List.getElem_mem hlt)
      have x1 : (k : Int) < l.length := by omega
      have x2 : (k : Int) < 30 := by omega
      have HFE := Lib.hid (efewO_c l[k].t l[k].p l[k].q l[k].a l[k].c l[k].l i6 i1 i2 (fun f hf => ⟨(i5 f hf).1, (i5 f hf).2.1⟩) wo hfl)
      have HEK := Lib.hid (few_ok (l := l[k].l) i5)
      have u1 := few60_le l[k].t
      have u2 := few60_le l[k].p
      clear hfl i5
      go_wp2_with fail
      refine HFE.out.mono ?_
      generalize few60 l[k].t = T at HFE u1 ⊢
      generalize few60 l[k].p = P at HFE u2 ⊢
      generalize fewL l[k].l = L at HFE HEK ⊢
      generalize l[k].q = q at HFE i3 i4 ⊢
      rintro e w1 ⟨a2, c2', rfl, hf2, hb2⟩
      have HB1 := Lib.hid (bstep hb2 HB.out)
      have HKM1 := Lib.hid (HKM.out.grow hb2)
      have HT1 := Lib.hid (HT.out.grow hb2)
      have HFL1 := Lib.hid (fown_lower hf2 (by omega : w.heap.size + 3 ≤ wo.heap.size))
      have hz1 := hb2.size
      clear hb2 hf2 c0 c1' c2 c3 HFE HB HKM HT HFo
      have HTIN := Lib.hid (Kp.tin HKP.out)
      obtain ⟨hOE, hOE2, hlE⟩ := HEK.out
      have HAPP := Lib.hid (fun (W : World) (hb : Below w.heap.size w W) (hF : Tops W a1 l1) (hE : Flds W a2 L) => tappendO_c a1 c1 l1 (by have := HTIN.out.1; omega) HTIN.out.2 T P q a2 L c2' (by omega) (by omega) i3 i4 (by omega) hOE W (HM.out.grow hb) hF HS.out hE)
      have HFIT := Lib.hid (evFits (t := T) (p := P) i3 i4 hOE)
      have HVG := Lib.hid (fun (x : List UInt8) (b o n c : Nat) (h : V x = .slice (some ⟨b, o, none⟩) n c) => show b < w1.heap.size by
        have h5 := HKM1.out.ow x
        rw [h] at h5
        exact (ROwn.lt0 h5).2)
      obtain ⟨p, hp⟩ : ∃ p, appP (l1.map TB.tp) (evMay T P q L) T ⟨(evE T P q L).lay.toArray⟩ = p := ⟨_, rfl⟩
      rw [hp] at HAPP
      have HP := Lib.hid hp
      clear hp hOE hOE2 HEK
      have hyb : w.heap.size + 3 ≤ w1.heap.size := by omega
      go_upto_region 9 with fail
      refine wp_genC (fun v => Hid (EAt v w1.heap.size T P q (.slice a2 L.length c2')) ∧ Hid (Tops v a1 l1) ∧ Hid (FOwn 39 v (w.heap.size + 3) (.slice a2 L.length c2') L) ∧ Hid (KM v w.heap.size k A F R V G) ∧ Hid (Below w.heap.size w v) ∧ w1.heap.size < v.heap.size) ⟨EAt.of (new_box w1 #[.string T, .string P, .int .u64 q, .slice a2 L.length c2'] 25), HT1.out.grow (balloc _ (.refl _ _)), HFL1.out.grow (balloc _ (.refl _ _)), HKM1.out.grow (balloc _ (.refl _ _)), balloc _ HB1.out, by simp⟩ ?_
      clear HB1 HKM1 HT1 HFL1 hz1
      rintro w2 ⟨HX2, HT2, HF2, HKM2, HB2, hz2⟩
      generalize w1.heap.size = Gb at HX2 hz2 hyb HVG ⊢
      obtain ⟨x0, x1, x2, x3, x4, x5, x6, x7⟩ := HX2.out
      go_wp2_with fail
      refine (HAPP.out w2 HB2.out HT2.out (fown_flds HF2.out)).mono ?_
      rintro e w3 ⟨a3, c3, l3, rfl, hm3, hF3, hS3, hb3, hn3, hn3'⟩
      clear x0 x1 x2 x3 x4 x5 x6 x7
      by_cases hz : p.2.2 = 0
      · have hev : evMay T P q L = true := by
          cases h : evMay T P q L with
          | true => rfl
          | false =>
            have h2 := HP.out
            rw [h] at h2
            rw [← h2] at hz
            unfold appP at hz
            rw [if_neg (by simp)] at hz
            cases hz
        have hp2 := HP.out
        rw [hev] at hp2
        have hka := HKP.out.app (evE T P q L) ((evMay_eq T P q L i3).symm.trans hev) HFIT.out T rfl (by
          show (appP (l1.map TB.tp) true T ⟨(evE T P q L).lay.toArray⟩).2.2 = 0
          rw [hp2]; exact hz)
        rw [show layB (evE T P q L) = ⟨(evE T P q L).lay.toArray⟩ from rfl, hp2] at hka
        obtain ⟨hn, hkp⟩ := hka
        obtain ⟨pL, pn, pk⟩ := p
        dsimp only at hm3 hS3 hn hkp hz
        subst hz hn hm3
        have HKP3 := Lib.hid hkp
        have hNT := HN.out T.data.toList
        have hKX : KX w Gb T P q a2 c2' L a3 l3 R V w3 := ⟨HX2.out.grow hz2 hb3, HF2.out.grow hb3, hF3, fun x => (HKM2.out.ow x).grow hb3, fun x e he => (HKM2.out.fl x e he).grow hb3, bstep hb3 HB2.out, Nat.lt_of_lt_of_le hz2 hb3.size⟩
        have KX3 := Lib.hid hKX
        have ME3 := Lib.hid (HKM2.out.me.grow hb3)
        have MF3 := Lib.hid (HKM2.out.mf.grow hb3)
        have MA3 := Lib.hid (HKM2.out.ma.grow hb3)
        have HEV := Lib.hid HKM2.out.ev
        have HTP := Lib.hid HKM2.out.tp
        have HZ := Lib.hid HKM2.out.z
        have HN3 := Lib.hid hn3
        have HN3' := Lib.hid hn3'
        have HS3 := Lib.hid hS3
        have hz3 := hb3.size
        have hmx : T.size ≤ maxLen := by unfold maxLen; omega
        clear hp2 hkp hKX hF3 hS3 hb3 hn3 hn3' HX2 HF2 HT2 HKM2 HB2 HAPP HP HKP hev HTIN HFIT
        obtain ⟨x0, x1, x2, x3, x4, x5, x6, x7⟩ := KX3.out.e
        go_upto_region 14 with (first | (at_lookup; refine wpList_lookS rfl _ _ rfl ME3.out Try.underlying9 Try.underlying78 (zInt _) rfl hmx rfl (v := .int .i64 ((A T.data.toList).length : Int)) rfl ?_) | (at_mapUpdate; refine wpList_putS rfl _ _ _ rfl ME3.out Try.underlying9 Try.underlying78 (by unfold maxLen; omega) rfl hmx rfl rfl ?_; intro w4 hm4 hg4))
        clear x0 x1 x2 x3 x4 x5 x6 x7
        have HEE : Hid (EB.ev ⟨T, P, q, a2, L, c2'⟩ = evE T P q L) := Lib.hid rfl
        have hme4 := ends_upd (E := evE T P q L) hm4
        have ME4 := Lib.hid hme4
        have MF4 := Lib.hid (MF3.out.kept hg4 (by simp only [ne_eq, Option.some.injEq]; omega))
        have MA4 := Lib.hid (MA3.out.kept hg4 (by simp only [ne_eq, Option.some.injEq]; omega))
        have KX4 := Lib.hid (KX3.out.mapped hg4 ME3.out.isMap (Nat.le_refl _) (by omega))
        have hz4 : w.heap.size + 3 ≤ w4.heap.size := by have := KX4.out.z; omega
        obtain ⟨g, C, hC, hgv, hgd⟩ := Tryst3.AppC.ex (KX4.out.ow T.data.toList) (EB.cells ⟨T, P, q, a2, L, c2'⟩) w.heap.size (by omega)
        have hgb : g < Gb := by
          rcases hgd with e | ⟨c, e⟩
          · omega
          · exact HVG.out _ _ _ _ _ e
        have hgn : g ≠ w.heap.size + 1 + 1 := by
          rcases hgd with e | ⟨c, e⟩
          · omega
          · have h5 := KX4.out.ow T.data.toList
            rw [e] at h5
            have := (ROwn.lt0 h5).1
            omega
        have HC := Lib.hid hC
        have hrl : ((R T.data.toList).map EB.cells).length ≤ 30 := by
          have h5 := congrArg List.length (HEV.out T.data.toList)
          rw [List.length_map] at h5 ⊢
          omega
        clear hm4 hg4 hme4 ME3 MF3 MA3 KX3 hC hgd
        obtain ⟨x0, x1, x2, x3, x4, x5, x6, x7⟩ := KX4.out.e
        refine Tryst3.wp_region_ext g C [.is (.map (some (w.heap.size + 1 + 1))), .is (.pointer (some ⟨Gb, 0, none⟩)), .is (.string T), .is (.map (some (w.heap.size + 1 + 1))), .is (.pointer (some ⟨Gb, 0, none⟩)), .is (.string T), .is (V T.data.toList), .is (.agg #[.string T, .string P, .int .u64 q, .slice a2 L.length c2']), .any (OneE g ⟨T, P, q, a2, L, c2'⟩), .any (Tryst3.AppQ 25 4 (w.heap.size + 3) ((R T.data.toList).map EB.cells ++ [EB.cells ⟨T, P, q, a2, L, c2'⟩]) g C)] (by kernel_rfl) (by kernel_rfl) ?obl ?fin
        case obl =>
          simp only [Tryst2.AllObl, Tryst2.dstL, Tryst2.Obl, Tryst2.depsOf, Tryst2.binds_data, Tryst2.binds_chain, Tryst2.binds_phase, Tryst2.binds_guard, Tryst2.binds_text, Tryst2.binds_gc, Bool.false_eq_true, if_false, List.filterMap_cons_some, List.filterMap_cons_none, Tryst2.depsR, Tryst2.holdR, Tryst2.tmpsOf, Op.operands, Call.operands, Tryst3.Rsp.pred, Tryst2.wantedV_none, Tryst2.wantedV_some, if_true, List.map_cons, List.map_nil, List.length_map, List.take_succ_cons, List.take_zero, List.length_cons, List.length_nil, List.getElem?_cons_zero, List.getElem?_cons_succ, Option.bind_some, id, List.getD_cons_zero, List.getD_cons_succ, Tryst2.isDst, List.filterMap_cons, List.filterMap_nil, List.toList_toArray]
          repeat' apply And.intro
          any_goals trivial
          all_goals (intro tv w' hg hold hd; (try simp at hold); obtain ⟨e0, e1, e2, e3, e4, e5, e6, e7⟩ := hg.ev (b := Gb) (EAt.mk x0 x1 x2 x3 x4 x5 x6 x7) KX4.out.z (by omega); have hgs : w4.heap.size ≤ w'.heap.size := hg.size; have hlk := (MA4.out.of_block (w' := w') (hg.block _ (by show w.heap.size + 1 + 1 < w4.heap.size; omega) (fun e => hgn e.symm))).look (t := 79) Try.underlying9 Try.underlying79 (zEvs _) hmx)
          all_goals first | (go_simp; done) | (go_simp; rw [if_neg (by omega)]; exact ⟨.refl _ _ _, rfl⟩) | (go_simp; exact oneE g C ⟨T, P, q, a2, L, c2'⟩ _ _ (by omega)) | (obtain ⟨g2, eg2, hg2c⟩ := OneE.at hd.2.1; exact Tryst3.stepApp (w := w4.drew) evT (.tmp 68) (.tmp 70) rfl (w.heap.size + 3) (V T.data.toList) _ (KX4.out.ow T.data.toList) (EB.cells_len _) (EB.cells ⟨T, P, q, a2, L, c2'⟩) rfl (by intro u hu; simp [EB.cells] at hu; rcases hu with rfl | rfl | rfl | rfl <;> rfl) g C HC.out hg hd.1 g2 eg2 hg2c (by omega) (by show w.heap.size + 3 ≤ w4.heap.size; omega) hgv)
        case fin =>
          intro tv w' hg hR
          simp only [Tryst2.allR, Tryst2.dstL, Tryst3.Rsp.pred, List.map_cons, List.map_nil, List.take_succ_cons, List.take_zero, List.length_cons, List.length_nil, List.tail_cons, List.toList_toArray] at hR
          simp only [Tryst2.putAll, Tryst2.dstL, List.map_cons, List.map_nil, List.take_succ_cons, List.take_zero, List.length_cons, List.length_nil, List.toList_toArray, List.drop_succ_cons, List.drop_zero, Act.put, List.setIfInBounds_toArray, List.set_cons_zero, List.set_cons_succ, hR]
          have hg' : Tryst3.Ext g C w4 w' := ⟨hg.os, hg.tape, hg.output, hg.size, hg.block, hg.row⟩
          have hq := Tryst3.AppQ.at hR.2.2.2.2.2.2.2.2.2.1
          have hKX := KX4.out.app (v' := w') (x := T.data.toList) hg' HC.out rfl hq HVG.out HN3.out HN3'.out hz2 (fun x e he => (HTP.out x e he).1) HZ.out hyb
          have KX5 := Lib.hid hKX
          have gsame : ∀ m, m < w.heap.size + 3 → w'.heap[m]? = w4.heap[m]? := fun m hm => by
            by_cases e : m = g
            · subst e
              have h5 : w4.heap[m]? = some C := by
                rcases HC.out with ⟨cap, cur, hv, _⟩ | ⟨_, hh⟩
                · have h6 := KX4.out.ow T.data.toList
                  rw [hv] at h6
                  have := (ROwn.lt0 h6).1
                  omega
                · exact hh
              rcases hg.row with h6 | h6
              · exact h6
              · exact h6.trans h5.symm
            · exact hg.block m (by show m < w4.heap.size; omega) e
          have ME5 := Lib.hid (ME4.out.of_block (gsame _ (by omega)))
          have MF5 := Lib.hid (MF4.out.of_block (gsame _ (by omega)))
          have MA5 := Lib.hid (MA4.out.of_block (gsame _ (by omega)))
          have hz5 : w.heap.size + 3 ≤ w'.heap.size := by have := KX5.out.z; omega
          clear hKX hq gsame hR hg hg' KX4 ME4 MF4 MA4 HC hgv x0 x1 x2 x3 x4 x5 x6 x7
          generalize tv 71 = v2 at KX5 ⊢
          go_upto_region 15 with (at_mapUpdate; refine wpList_putS rfl _ _ _ rfl MA5.out Try.underlying9 Try.underlying79 (by unfold maxLen; omega) rfl hmx rfl (v := v2) rfl ?_; intro w6 hm6 hg6)
          have hm7 := all_upd (E := evE T P q L) hm6
          have MA6 := Lib.hid hm7
          have ME6 := Lib.hid (ME5.out.kept hg6 (by simp only [ne_eq, Option.some.injEq]; omega))
          have MF6 := Lib.hid (MF5.out.kept hg6 (by simp only [ne_eq, Option.some.injEq]; omega))
          have KX6 := Lib.hid (KX5.out.mapped hg6 MA5.out.isMap (by omega) (by omega))
          have HEV2 : Hid (∀ y, (upd R T.data.toList (R T.data.toList ++ [⟨T, P, q, a2, L, c2'⟩]) y).map EB.ev = upd A T.data.toList (A T.data.toList ++ [evE T P q L]) y) := Lib.hid (fun y => by
            unfold upd
            by_cases e : y = T.data.toList
            · simp only [e, if_true, List.map_append, List.map_cons, List.map_nil, HEV.out]; rfl
            · simp only [e, if_false]; exact HEV.out y)
          have HTP2 : Hid (∀ y, ∀ e ∈ upd R T.data.toList (R T.data.toList ++ [⟨T, P, q, a2, L, c2'⟩]) y, e.t.data.toList = y ∧ 0 ≤ e.q) := Lib.hid (fun y e he => by
            unfold upd at he
            by_cases e' : y = T.data.toList
            · simp only [e', if_true] at he
              rcases List.mem_append.1 he with h7 | h7
              · rw [e']; exact HTP.out _ e h7
              · simp at h7; subst h7; exact ⟨e'.symm, i3⟩
            · simp only [e', if_false] at he; exact HTP.out y e he)
          have HZ2 : Hid (∀ y, upd R T.data.toList (R T.data.toList ++ [⟨T, P, q, a2, L, c2'⟩]) y = [] → upd V T.data.toList v2 y = .slice none 0 0) := Lib.hid (fun y hy => by
            unfold upd at hy ⊢
            by_cases e' : y = T.data.toList
            · simp [e'] at hy
            · simp only [e', if_false] at hy ⊢; exact HZ.out y hy)
          have HNA : Hid (∀ y, (upd A T.data.toList (A T.data.toList ++ [evE T P q L]) y).length ≤ k + 1) := Lib.hid (fun y => by
            unfold upd
            by_cases e' : y = T.data.toList
            · simp only [e', if_true, List.length_append, List.length_singleton]; omega
            · simp only [e', if_false]; have := HN.out y; omega)
          have HNE : Hid (upd A T.data.toList (A T.data.toList ++ [evE T P q L]) T.data.toList ≠ []) := Lib.hid (by unfold upd; simp)
          clear hm6 hm7 hg6 ME5 MF5 MA5 KX5 HEV HTP HZ
          generalize upd R T.data.toList (R T.data.toList ++ [⟨T, P, q, a2, L, c2'⟩]) = R6 at *
          generalize upd A T.data.toList (A T.data.toList ++ [evE T P q L]) = A6 at *
          generalize upd V T.data.toList v2 = V6 at *
          have HS4 : Hid (Sl a3 c3 l3.length) := Lib.hid (by have h := HS3.out; rw [List.length_map] at h; exact h)
          have hz6 : w.heap.size + 3 ≤ w6.heap.size := by have := KX6.out.z; omega
          have HKM6 := Lib.hid (KM.mk ME6.out (MF6.out.mono (Nat.le_succ k)) MA6.out HEV2.out HTP2.out KX6.out.ow KX6.out.fl HZ2.out)
          have hk1 : k + 1 ≤ 30 := by omega
          clear HS3 HN3 HN3' hgb hgn hrl hz5 hz4 HVG HEE hNT hlE
          by_cases hku : k < u.length
          · have HWu := Lib.hid (HW.out.grow KX6.out.k)
            obtain ⟨b2, o2, ha2, hb2⟩ := HWu.out.head (i := k) (by simpa using hku)
            obtain rfl : au = some ⟨b2, o2, none⟩ := ha2
            have hc2 := (HWu.out.at (i := k) (by simpa using hku)).2 0 (by omega)
            simp only [List.getElem_map, Nat.mul_one, Nat.add_zero, List.getElem?_cons_zero] at hc2
            obtain ⟨hx8, hx9⟩ := HU.out u[k] (List.getElem_mem hku)
            obtain ⟨m, hm⟩ : ∃ m : Nat, u[k] % 8 = m := ⟨(u[k] % 8).toNat, by omega⟩
            have hm8 : m < 8 := by omega
            have y1 : (k : Int) < u.length := by omega
            have HTR := Lib.hid (ttrim_c T m (by omega) (by omega) a3 c3 l3 (by have := (Kp.tin HKP3.out).1; omega) (Kp.tin HKP3.out).2 w6 (HM.out.grow KX6.out.k) KX6.out.t HS4.out)
            obtain ⟨tr1, tr2⟩ := HKP3.out.trim T HNE.out m
            obtain ⟨p6, hp6⟩ : ∃ p6, trimP (l3.map TB.tp) T m = p6 := ⟨_, rfl⟩
            rw [hp6] at HTR tr1 tr2
            obtain ⟨x0, x1, x2, x3, x4, x5, x6, x7⟩ := KX6.out.e
            clear hp6
            go_upto_region 18 with fail
            clear hc2
            go_wp2_with fail
            refine HTR.out.mono ?_
            rintro e w7 h7
            obtain ⟨a7, c7, l7, rfl, hm7, hF7, hS7, hb7⟩ := tops_at h7
            clear h7 x0 x1 x2 x3 x4 x5 x6 x7 HTR hm
            have HKM7 := Lib.hid (HKM6.out.grow hb7)
            have MF7 := Lib.hid (MF6.out.grow hb7)
            have HT7 := Lib.hid (KX6.out.t.grow hb7)
            have HB7 := Lib.hid (bstep hb7 KX6.out.k)
            have EX7 := Lib.hid (KX6.out.e.grow KX6.out.z hb7)
            have hz7 : w.heap.size + 3 ≤ w7.heap.size := Nat.le_trans hz6 hb7.size
            clear hb7
            obtain ⟨x0, x1, x2, x3, x4, x5, x6, x7⟩ := EX7.out
            by_cases htk : p6.2 = 0
            · have HKP7 := Lib.hid (tr1 htk)
              rw [← hm7] at HKP7
              obtain ⟨tL, tk⟩ := p6
              dsimp only at htk hm7
              subst htk
              have HF7 := Lib.hid hF7
              have HS7 := Lib.hid hS7
              have HFN : Hid (F T.data.toList ≤ 30) := Lib.hid (by
                by_cases e : ∃ t ∈ l3.map TB.tp, t.name = T
                · obtain ⟨t, ht, hn⟩ := e
                  have h5 := (HKP3.out.at' t ht).2.2.1
                  rw [hn] at h5
                  have h6 := HNA.out T.data.toList
                  omega
                · have h5 := (HKP3.out.no T (fun t ht hn => e ⟨t, ht, hn⟩)).2
                  omega)
              clear tr1 tr2 hF7 hS7 HT7 hm7
              generalize hFX : F T.data.toList = fx at *
              have hfx : fx ≤ 30 := HFN.out
              have hmv := fun (v : Int) => hFX
              clear hFX
              dsimp only
              go_upto_region 21 with fail
              go_wp2_with (first | (at_lookup; refine wpList_lookS rfl _ _ rfl MF7.out Try.underlying9 Try.underlying78 (zInt _) rfl hmx rfl (v := .int .i64 (fx : Int)) (by simp only [hmv 0]) ?_) | (at_mapUpdate; refine wpList_putS rfl _ _ _ rfl MF7.out Try.underlying9 Try.underlying78 (by unfold maxLen; omega) rfl hmx rfl (v := .int .i64 ((max fx m : Nat) : Int)) ?_ ?_; rotate_left; intro w8 hm8 hg8))
              case refine_1 =>
                show Value.int .i64 _ = _
                congr 1
                omega
              go_roundw
              case rel =>
                have HF8 := HF7.out.turn (Turn.of hg8) (HF7.out.nomap HKM7.out.mf.isMap.choose_spec.choose_spec).1 (HF7.out.nomap HKM7.out.mf.isMap.choose_spec.choose_spec).2
                have hmf := firsts_upd (F := F) (m := m) (v := ((max fx m : Nat) : Int)) (by rw [hmv 0]) hm8
                rw [hmv 0] at hmf
                have ht8 := Turn.of hg8
                exact ⟨k + 1, a7, c7, l7, A6, _, R6, V6, _, hk1, by go_num, rfl, HKP7, HF8, HS7, KM.mk (HKM7.out.me.kept hg8 (by simp only [ne_eq, Option.some.injEq]; omega)) hmf (HKM7.out.ma.kept hg8 (by simp only [ne_eq, Option.some.injEq]; omega)) HKM7.out.ev HKM7.out.tp (fun x => own_turn (HKM7.out.ow x) ht8 (by omega)) (fun x e he => own_turn (HKM7.out.fl x e he) ht8 (by omega)) HKM7.out.z, HB7.out.grown hg8 (by omega) (fun j hj => by cases hj; omega), HNA, Nat.le_trans hz7 ht8.size⟩
              case measure => simp [intOf] <;> omega
            · have hlt8 := tr2 htk
              obtain ⟨tL, tk⟩ := p6
              dsimp only at htk hm7 hS7
              have y2 : ((tk : Int) == 0) = false := by simpa using htk
              have y3 : ¬ (m : Int) ≤ ((A6 T.data.toList).length : Int) := by omega
              clear tr1 tr2 hF7 hS7 hm7 htk hlt8
              dsimp only
              go_wp2_with (at_lookup; refine wpList_lookS rfl _ _ rfl HKM7.out.me Try.underlying9 Try.underlying78 (zInt _) rfl hmx rfl (v := .int .i64 ((A6 T.data.toList).length : Int)) rfl ?_)
              go_roundw
              case rel => exact ⟨k + 1, a3, c3, l3, A6, F, R6, V6, G, hk1, by go_num, rfl, HKP3, HT7, HS4, HKM7, HB7, HNA, hz7⟩
              case measure => simp [intOf] <;> omega
          · have y1 : ¬ (k : Int) < u.length := by omega
            go_wp2_with fail
            go_roundw
            case rel => exact ⟨k + 1, a3, c3, l3, A6, F, R6, V6, G, hk1, by go_num, rfl, HKP3, KX6.out.t, HS4, HKM6, KX6.out.k, HNA, hz6⟩
            case measure => simp [intOf] <;> omega
      · have y2 : ((p.2.2 : Int) != 0) = true := by simpa using hz
        have HKM3 := Lib.hid (HKM2.out.grow hb3)
        have HT3 := Lib.hid (HT2.out.grow hb3)
        have HB3 := Lib.hid (bstep hb3 HB2.out)
        have hz3 : w.heap.size + 3 ≤ w3.heap.size := by have := hb3.size; omega
        have hk1 : k + 1 ≤ 30 := by omega
        have HN1 : Hid (∀ y, (A y).length ≤ k + 1) := Lib.hid (fun y => Nat.le_succ_of_le (HN.out y))
        have HKM4 := Lib.hid (KM.mk (HKM3.out.me.mono (Nat.le_succ k)) (HKM3.out.mf.mono (Nat.le_succ k)) (HKM3.out.ma.mono (Nat.le_succ k)) HKM3.out.ev HKM3.out.tp HKM3.out.ow HKM3.out.fl HKM3.out.z)
        clear hm3 hF3 hS3 hb3 hn3 hn3' hz
        go_wp2_with fail
        go_roundw
        case rel => exact ⟨k + 1, a1, c1, l1, A, F, R, V, G, hk1, by go_num, rfl, HKP, HT3, HS, HKM4, HB3, HN1, hz3⟩
        case measure => simp [intOf] <;> omega
    · have HAW := Lib.hid (fun (W : World) (hb : Below w.heap.size w W) => awake12_c W (HM.out.grow hb))
      have HTIN := Lib.hid (Kp.tin HKP.out)
      have HCK := Lib.hid (fun (W : World) (hb : Below w.heap.size w W) (hF : Tops W a1 l1) => tcheck_c a1 c1 l1 (by have := HTIN.out.1; omega) HTIN.out.2 W (HM.out.grow hb) hF)
      rw [show topsMay (l1.map TB.tp) = true from HKP.out.ok] at HCK
      have HEN := Lib.hid (fun (n : ByteArray) (W : World) (hb : Below w.heap.size w W) (hF : Tops W a1 l1) => tEnd_c n a1 c1 l1 (by have := HTIN.out.1; omega) HTIN.out.2 W (HM.out.grow hb) hF)
      have HRD := Lib.hid (fun (n : ByteArray) (j : Nat) (hj : j ≤ 30) (W : World) (hb : Below w.heap.size w W) (hF : Tops W a1 l1) => tread_c n j (by omega) (by omega) a1 c1 l1 (by have := HTIN.out.1; omega) HTIN.out.2 W (HM.out.grow hb) hF)
      by_cases hks : k < l.length
      all_goals
        go_wp2_with (at_range; refine wpList_rangeS rfl _ rfl HKM.out.ma Try.underlying9 Try.underlying79 rfl ?_; intro w9 cnt hr9 hg9 hs9)
        have hb9 : Below wo.heap.size wo w9 := (Below.refl _ _).grown hg9 (Nat.le_refl _) (fun j hj => by cases hj)
        have HL9 : Hid (LRel w wo.heap.size k A F R V G a1 l1 w9) := Lib.hid ⟨cnt, _, ⟨hr9, HKM.out.grow hb9, HT.out.grow hb9, bstep hb9 HB.out, hbz, fun x hx hA => by rw [hA] at hx; cases hx⟩⟩
        clear hr9 hg9 hs9 hb9 HT HKM HB
        generalize wo.heap.size = r at HL9 hbz ⊢
        go_frame
        go_loopw [111] (fun _ wr => LRel w r k A F R V G a1 l1 wr) (fun _ wr => wr.rangeLeft (w.heap.size + 1 + 1) r)
        case atStart => exact HL9.out
        case round =>
          obtain ⟨cnt, q, HK⟩ := hrel
          obtain ⟨wp, rfl⟩ : ∃ wp, wp = wr := ⟨_, rfl⟩
          clear HL9
          have hml := HK.out.rg.left_eq
          go_upto_region 26 with (at_next; refine wpList_nextS rfl _ rfl HK.out.rg Try.underlying9 rfl ?_ ?_; rotate_left; intro s w11 cnt' hsz hq hrg hlt11 hg11 hs11 hen)
          case refine_1 =>
            intro _
            go_wp2_with fail
            refine (HCK.out wp HK.out.k HK.out.t).mono ?_
            rintro e w12 ⟨rfl, hb12⟩
            rw [show errV true = 0 from rfl]
            have HB12 := Lib.hid (bstep hb12 HK.out.k)
            clear hb12
            go_wp2_with fail
            refine (HAW.out w12 HB12.out).mono ?_
            rintro e w13 ⟨rfl, hb13⟩
            have HB13 := Lib.hid (bstep hb13 HB12.out)
            clear hb13
            go_wp2_with fail
            go_ret
            exact ⟨rfl, HB13.out⟩
          · have hA := HK.out.hq _ hq
            have HK11 := Lib.hid (HK.out.next hg11 hrg (fun x hx => by simp only [Bool.and_eq_true] at hx; exact hx.1))
            have HEQ : Hid (∀ av cv av' cv', V s.data.toList = .slice av (A s.data.toList).length cv → V s.data.toList = .slice av' (A s.data.toList).length cv' → av = av') := Lib.hid (fun av cv av' cv' h1 h2 => by rw [h1] at h2; cases h2; rfl)
            obtain ⟨av, cv, hV, _⟩ := HK11.out.evs s.data.toList
            have HV := Lib.hid hV
            have HTPX := Lib.hid (HK11.out.km.tp s.data.toList)
            have HEVX := Lib.hid (HK11.out.km.ev s.data.toList)
            have hlen := HN.out s.data.toList
            have HE := Lib.hid (HEN.out s)
            rw [HKP.out.endP hA] at HE
            dsimp only at HE
            simp only [hV] at hen ⊢
            clear hV hg11 hrg HK hA hq
            go_wp2_with fail
            refine (HE.out w11 HK11.out.k HK11.out.t).mono ?_
            rintro e w12 ⟨rfl, hb12⟩
            have HK12 := Lib.hid (HK11.out.grow hb12)
            clear hb12 HK11 hen HE
            go_wp2_with (at_lookup; refine wpList_lookS rfl _ _ rfl HK12.out.km.me Try.underlying9 Try.underlying78 (zInt _) rfl hsz rfl (v := .int .i64 ((A s.data.toList).length : Int)) rfl ?_)
            go_loopw [21] (fun i wr => IRel w r k cnt' (A s.data.toList).length A F R V G (fun l => q l && !decide (l = s.data.toList)) a1 l1 i wr) (fun i _ => (A s.data.toList).length - (intOf i).toNat)
            case atStart => exact ⟨0, by omega, rfl, HK12⟩
            case round =>
              obtain ⟨j, hj, rfl, HKj⟩ := hrel
              obtain ⟨wq, rfl⟩ : ∃ wq, wq = wr := ⟨_, rfl⟩
              clear HK12
              by_cases hjl : j < (A s.data.toList).length
              · have HR := Lib.hid (HRD.out s j (by omega) wq HKj.out.k HKj.out.t)
                rw [HKP.out.readP j hjl] at HR
                by_cases hjf : j < F s.data.toList
                · rw [if_pos hjf] at HR
                  go_wp2_with fail
                  refine HR.out.mono ?_
                  rintro e w13 ⟨a3, c3, rfl, _, _, hb13⟩
                  have HK13 := Lib.hid (HKj.out.grow hb13)
                  clear hb13 HR HKj
                  go_upto_region 34 with fail
                  refine wp_genC (fun v => Hid (LK w r k cnt' A F R V G (fun l => q l && !decide (l = s.data.toList)) a1 l1 v)) (HK13.out.grow (balloc _ (.refl _ _))) ?_
                  clear HK13
                  rintro w14 HK14
                  have y1 : (j : Int) < (F s.data.toList : Int) := by omega
                  go_wp2_with (at_lookup; refine wpList_lookS rfl _ _ rfl HK14.out.km.mf Try.underlying9 Try.underlying78 (zInt _) rfl hsz rfl (v := .int .i64 (F s.data.toList : Int)) rfl ?_)
                  go_roundw
                  case rel => exact ⟨j + 1, by omega, by go_num, HK14⟩
                  case measure => simp [intOf] <;> omega
                · rw [if_neg hjf] at HR
                  have hjR : j < (R s.data.toList).length := by
                    have h5 := congrArg List.length HEVX.out
                    rw [List.length_map] at h5
                    omega
                  have hE : (A s.data.toList)[j] = ((R s.data.toList)[j]).ev := by
                    have h5 := HEVX.out
                    have h6 : ((R s.data.toList).map EB.ev)[j]'(by simpa using hjR) = (A s.data.toList)[j] := by simp only [h5]
                    rw [← h6, List.getElem_map]
                  rw [hE] at HR
                  obtain ⟨htt, hq0⟩ := HTPX.out _ (List.getElem_mem hjR)
                  obtain ⟨av', cv', hV', hrowj⟩ := HKj.out.evs s.data.toList
                  obtain rfl := HEQ.out _ _ _ _ HV.out hV'
                  obtain ⟨b3, o3, ha3, hb3⟩ := hrowj.head hjR
                  obtain rfl : av = some ⟨b3, o3, none⟩ := ha3
                  generalize hee : (R s.data.toList)[j] = ee at HR hE htt hq0
                  obtain ⟨et, ep, eq, ea, el, ec⟩ := ee
                  have HRj := Lib.hid hrowj
                  have HEE := Lib.hid hee
                  clear hE hV' hrowj hee htt
                  go_wp2_with fail
                  refine HR.out.mono ?_
                  rintro e w13 h13
                  obtain ⟨a3, c3, rfl, hf3, hb13⟩ := h13.eb hq0
                  clear h13
                  dsimp only at hf3 hq0 ⊢
                  have HK13 := Lib.hid (HKj.out.grow hb13)
                  have HRow := Lib.hid (HRj.out.grow hb13)
                  have HF3 := Lib.hid hf3
                  clear hb13 HR HKj HRj hf3
                  go_upto_region 34 with fail
                  refine wp_genC (fun v => Hid (LK w r k cnt' A F R V G (fun l => q l && !decide (l = s.data.toList)) a1 l1 v) ∧ Hid (EvsA v (some ⟨b3, o3, none⟩) (R s.data.toList)) ∧ Hid (Flds v a3 el) ∧ Hid (EAt v w13.heap.size et ep eq (.slice a3 el.length c3)) ∧ w13.heap.size < v.heap.size) ⟨HK13.out.grow (balloc _ (.refl _ _)), HRow.out.grow (balloc _ (.refl _ _)), HF3.out.grow (balloc _ (.refl _ _)), EAt.of (new_box w13 #[.string et, .string ep, .int .u64 eq, .slice a3 el.length c3] 25), by simp⟩ ?_
                  clear HK13 HRow HF3
                  rintro w14 ⟨HK14, HRow, HF3, HX, hzB⟩
                  generalize w13.heap.size = B13 at HX hzB ⊢
                  have y1 : ¬ (j : Int) < (F s.data.toList : Int) := by omega
                  have hjl' : (j : Int) < ((A s.data.toList).length : Int) := by omega
                  go_upto_region 37 with (at_lookup; refine wpList_lookS rfl _ _ rfl HK14.out.km.mf Try.underlying9 Try.underlying78 (zInt _) rfl hsz rfl (v := .int .i64 (F s.data.toList : Int)) rfl ?_)
                  obtain ⟨x0, x1, x2, x3, x4, x5, x6, x7⟩ := HX.out
                  obtain ⟨hbz3, c0, c1', c2, c3', hfl⟩ := HRow.out.at hjR
                  rw [HEE.out] at c0 c1' c2 c3' hfl
                  dsimp only at c0 c1' c2 c3' hfl
                  have HFL := Lib.hid hfl
                  have HEL : Hid (el.length ≤ 8) := Lib.hid (by
                    have h5 := HKP.out.ev s.data.toList (EB.ev ⟨et, ep, eq, ea, el, ec⟩) (by
                      rw [← HEVX.out, ← HEE.out]
                      exact List.mem_map.2 ⟨_, List.getElem_mem hjR, rfl⟩)
                    have h6 := h5.1
                    unfold Ev.may at h6
                    simp only [Bool.and_eq_true, decide_eq_true_eq] at h6
                    have h7 : (el.map FB.fld).length ≤ 8 := h6.1.2
                    rw [List.length_map] at h7
                    exact h7)
                  have hel : el.length ≤ 8 := HEL.out
                  clear hfl
                  refine Tryst2.wp_region_grows [.is (.int .i64 0), .is (.bool false), .is (.bool false), .is (.agg #[.string et, .string ep, .int .u64 eq, .slice a3 el.length c3]), .is (.slice (some ⟨b3, o3, none⟩) (A s.data.toList).length cv), .is (.int .i64 (j : Int)), .is (.pointer (some ⟨b3, o3 + j * 4, none⟩)), .is (.agg #[.string et, .string ep, .int .u64 eq, .slice ea el.length ec]), .is (.bool true), .is (.bool false), .is (.bool false)] (by kernel_rfl) (by kernel_rfl) ?obl ?fin
                  case obl =>
                    simp only [Tryst2.AllObl, Tryst2.dstL, Tryst2.Obl, Tryst2.depsOf, Tryst2.binds_data, Tryst2.binds_chain, Tryst2.binds_phase, Tryst2.binds_guard, Tryst2.binds_text, Tryst2.binds_gc, Bool.false_eq_true, if_false, List.filterMap_cons_some, List.filterMap_cons_none, Tryst2.depsR, Tryst2.holdR, Tryst2.tmpsOf, Op.operands, Call.operands, Tryst2.Rsp.pred, Tryst2.wantedV_none, Tryst2.wantedV_some, if_true, List.map_cons, List.map_nil, List.length_map, List.take_succ_cons, List.take_zero, List.length_cons, List.length_nil, List.getElem?_cons_zero, List.getElem?_cons_succ, Option.bind_some, id, List.getD_cons_zero, List.getD_cons_succ, Tryst2.isDst, List.filterMap_cons, List.filterMap_nil, List.toList_toArray]
                    repeat' apply And.intro
                    any_goals trivial
                    all_goals (intro tv w' hg hold hd; (try simp at hold); obtain ⟨hcg, hfg⟩ := Tryst2.Grow.cells hg; have hsg := Tryst2.Grow.le hg)
                    all_goals first | (go_simp; done) | (go_simp; rw [if_neg (by omega)]; exact ⟨.refl _, rfl⟩) | (obtain ⟨⟨g, hvg, hgg, hcell⟩, _⟩ := hd; have hcell0 := hcell 0 (by decide); simp at hcell0; go_simp; done) | (go_simp; go_at_call 19; (with_reducible refine (rsame_c et et ep ep eq eq a3 ea c3 ec el el (by omega) (by omega) _ ?_ ?_).mono ?_); (exact HF3.out.grow (Tryst2.Grow.below hg (.refl w14.heap.size w14))); (exact HFL.out.grow (Tryst2.Grow.below hg (.refl w14.heap.size w14))); rintro e w2 ⟨r2, rfl, hr2, hb2⟩; obtain rfl : r2 = true := hr2.2 ⟨rfl, rfl, rfl, rfl⟩; exact ⟨hb2, rfl⟩)
                  case fin =>
                    intro tv w' hg hR
                    simp only [Tryst2.allR, Tryst2.dstL, Tryst2.Rsp.pred, List.map_cons, List.map_nil, List.take_succ_cons, List.take_zero, List.length_cons, List.length_nil, List.tail_cons, List.toList_toArray] at hR
                    obtain ⟨hcg, hfg⟩ := Tryst2.Grow.cells hg
                    have hsg := Tryst2.Grow.le hg
                    simp only [Tryst2.putAll, Tryst2.dstL, List.map_cons, List.map_nil, List.take_succ_cons, List.take_zero, List.length_cons, List.length_nil, List.toList_toArray, List.drop_succ_cons, List.drop_zero, Act.put, List.setIfInBounds_toArray, List.set_cons_zero, List.set_cons_succ, hR]
                    have HK15 := Lib.hid (HK14.out.grow (Tryst2.Grow.below hg (.refl w14.heap.size w14)))
                    clear hg hR hcg hfg hsg
                    go_wp2_with fail
                    go_roundw
                    case rel => exact ⟨j + 1, by omega, by go_num, HK15⟩
                    case measure => simp [intOf] <;> omega
              · go_wp2_with fail
                go_roundw
                case rel => exact ⟨cnt', _, HKj⟩
                case measure =>
                  rw [HKj.out.rg.left_eq, hml]
                  exact hlt11
end Go.Proofs.Ytcbnehplilpidaa
