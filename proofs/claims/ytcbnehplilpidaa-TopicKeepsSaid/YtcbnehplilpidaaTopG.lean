/- The walk of topic.clone. -/
import Derived.Test.YtcbnehplilpidaaProg
import Derived.WalkKit
import Derived.WalkSpells
import Derived.WalkLawsBesides
import Derived.Lib.Hide
import Derived.Deep.RegionWith
import Derived.Deep.Cut
import Derived.IntWalk
import Derived.Test.YtcbnehplilpidaaTopF
set_option linter.unusedVariables false
set_option linter.unusedSimpArgs false
namespace Go.Proofs.Ytcbnehplilpidaa
open Go.RowKit Tryst
set_option maxHeartbeats 400000
set_option maxRecDepth 20000
def TLogO (w : World) (base : Nat) (l : List TB) (k : Nat) : Prop := ∀ (i : Nat) (h : i < l.length), i < k → ROwn 9 1 w base (.slice l[i].la l[i].log.length l[i].lc) (l[i].log.map fun s => [Value.string s])
theorem TLogO.grow {w w' : World} {base : Nat} {l : List TB} {k : Nat} (h : TLogO w base l k) (hb : Below w.heap.size w w') : TLogO w' base l k := fun i hi hk => (h i hi hk).grow hb
def TOwn (w : World) (base : Nat) (v : Value) (l : List TB) : Prop := ROwn 74 3 w base v (l.map TB.cells)
theorem TOwn.grow {w w' : World} {base : Nat} {v : Value} {l : List TB} (h : TOwn w base v l) (hb : Below w.heap.size w w') : TOwn w' base v l := ROwn.grow h hb
/-- topics that a call made itself, their logs too -/
def CloneTR (w : World) (l : List TB) (e : Ending) (w' : World) : Prop := ∃ a c l', e = .returned (.slice a l.length c) ∧ l'.length = l.length ∧ l'.map TB.tp = l.map TB.tp ∧ TOwn w' w.heap.size (.slice a l.length c) l' ∧ TLogO w' w.heap.size l' l.length ∧ Below w.heap.size w w'
/-- its k-th log written anew -/
def _root_.Tryst.TB.relog (t : TB) (a : Option Addr) (c : Nat) : TB := ⟨t.name, t.first, a, t.log, c⟩
theorem TOwn.block {w : World} {base : Nat} {v : Value} {l : List TB} (h : TOwn w base v l) (h0 : 0 < l.length) :
    ∃ g c, v = .slice (some ⟨g, 0, none⟩) l.length c ∧ base ≤ g ∧ g < w.heap.size ∧ (∀ j, w.frozen? ⟨g, j, none⟩ = false) ∧ (∃ cur, w.heap[g]? = some (.cells cur 74 (0, 0))) ∧
      (∀ (i : Nat) (hi : i < l.length), TAt w g (i * 3) l[i]) ∧
      (∀ (i : Nat) (hi : i < l.length) (a : Option Addr) (c : Nat), TOwn (w.setCell ⟨g, i * 3 + 2, none⟩ (.slice a l[i].log.length c)) base v (l.set i (l[i].relog a c))) := by
  obtain ⟨g, c, hv, h1, h2, h3, h4, h5⟩ := ROwn.block h (TB.cells_len l) (by simpa using h0)
  rw [List.length_map] at hv
  refine ⟨g, c, hv, h1, h2, h3, ?_, fun i hi => ?_, fun i hi a c => ?_⟩
  · exact own_typed h ⟨g, 0, none⟩ _ _ hv
  · have h6 := h4 i (by simpa using hi)
    simp only [List.getElem_map] at h6
    exact ⟨h6 0 (by omega), h6 1 (by omega), h6 2 (by omega)⟩
  · have h6 := h5 i (by simpa using hi) 2 (by omega) (.slice a l[i].log.length c)
    have e : (l.map TB.cells).set i (((l.map TB.cells)[i]'(by simpa using hi)).set 2 (.slice a l[i].log.length c)) = (l.set i (l[i].relog a c)).map TB.cells := by
      rw [List.map_set, List.getElem_map]
      rfl
    rw [e] at h6
    exact h6
theorem TLogO.off {w : World} {base : Nat} {l : List TB} {k : Nat} (h : TLogO w base l k) {g j : Nat} {cur : Array Value} (hg : w.heap[g]? = some (.cells cur 74 (0, 0))) (u : Value) : TLogO (w.setCell ⟨g, j, none⟩ u) base l k :=
  fun i hi hk => own_setCell_off (h i hi hk) u (typed_ne (h i hi hk) hg (by decide))
theorem TLogO.next {w : World} {base : Nat} {l : List TB} {k : Nat} (h : TLogO w base l k) {t : TB} (hk : k < l.length) (ht : ROwn 9 1 w base (.slice t.la t.log.length t.lc) (t.log.map fun s => [Value.string s])) : TLogO w base (l.set k t) (k + 1) := by
  intro i hi hik
  rw [List.length_set] at hi
  by_cases e : i = k
  · subst e
    rw [List.getElem_set_self]
    exact ht
  · rw [List.getElem_set_ne (fun h => e h.symm)]
    exact h i hi (by omega)
def CRel (w : World) (l : List TB) (base : Nat) (v : Value) (i : Value) (wr : World) : Prop := ∃ (k : Nat) (acc : List TB), k ≤ l.length ∧ i = .int .i64 k ∧ acc.length = l.length ∧ Hid (acc.map TB.tp = l.map TB.tp) ∧ Hid (∀ (i : Nat) (h1 : i < acc.length) (h2 : i < l.length), k ≤ i → acc[i] = l[i]) ∧ Hid (TOwn wr base v acc) ∧ Hid (TLogO wr base acc k) ∧ Hid (Below w.heap.size w wr) ∧ w.heap.size ≤ wr.heap.size
set_option maxHeartbeats 1000000 in
theorem tclone_c (a : Option Addr) (c : Nat) (l : List TB) (hl : l.length ≤ 1000000000) (hll : ∀ t ∈ l, t.log.length ≤ 1000000000) (w : World) (hF : Tops w a l) (hS : Sl a c l.length) :
    Calls Try.prog 62 #[.slice a l.length c] w fun e w' => CloneTR w l e w' := by
  have HF := Lib.hid hF
  have HC := Lib.hid (cloneT_c a c l hl w hF.1 hS)
  have HLL := Lib.hid hll
  clear hF hS hll
  go_enter Try.func62, Try.ntmps62
  go_wp2_with fail
  refine HC.out.mono ?_
  rintro e w1 ⟨a1, c1, rfl, ho, hb⟩
  have HO := Lib.hid (show TOwn w1 w.heap.size (.slice a1 l.length c1) l from ho)
  have HB := Lib.hid hb
  have hz := hb.size
  clear ho hb HC
  go_wp2_with fail
  go_loopw [10] (fun i wr => CRel w l w.heap.size (.slice a1 l.length c1) i wr) (fun i _ => l.length - (intOf i).toNat)
  case atStart => exact ⟨0, l, by omega, rfl, rfl, rfl, fun _ _ _ _ => rfl, HO, fun _ _ h => by omega, HB, hz⟩
  case round =>
    obtain ⟨k, acc, hk, rfl, hal, HT, HA, HOW, HL, HW, hzw⟩ := hrel
    obtain ⟨wo, rfl⟩ : ∃ wo, wo = wr := ⟨_, rfl⟩
    by_cases hlt : k < l.length
    · obtain ⟨g, c', hv, g1, g2, g3, ⟨cur, g4⟩, g5, g6⟩ := TOwn.block HOW.out (by omega)
      have hka : k < acc.length := by omega
      obtain ⟨d0, d1, d2⟩ := g5 k hka
      have hak := HA.out k hka hlt (Nat.le_refl _)
      rw [hal] at hv
      simp only [Value.slice.injEq] at hv
      obtain ⟨rfl, _, rfl⟩ := hv
      have hmem := List.getElem_mem hlt
      have HST := Lib.hid (((HF.out.2 l[k] hmem).1).grow HW.out)
      have hsl := (HF.out.2 l[k] hmem).2
      have hll := HLL.out l[k] hmem
      have HAK := Lib.hid hak
      rw [hak] at d0 d1 d2
      clear hak hmem g5 g6
      have HSL := Lib.hid hsl
      clear hsl
      have hba := balloc (.cells #[.string l[k].name, .int .i64 l[k].first, .slice l[k].la l[k].log.length l[k].lc] 74) (.refl wo.heap.size wo)
      go_wp2_with fail
      refine (cloneS_c l[k].la l[k].lc l[k].log hll _ (HST.out.grow hba) HSL.out).mono ?_
      rintro e w2 ⟨a2, c2, rfl, ho2, hb2⟩
      have hbb := bstep hb2 hba
      have hoo := HOW.out.grow hbb
      have hlo := HL.out.grow hbb
      have HB2 := Lib.hid (bstep hbb HW.out)
      obtain ⟨g', c', hv', _, q2, q3, ⟨cur', q4⟩, q5, q6⟩ := TOwn.block hoo (by omega)
      simp only [Value.slice.injEq, Option.some.injEq, Addr.mk.injEq, and_true] at hv'
      have hgg := hv'.1
      clear hv'
      subst hgg
      obtain ⟨_, _, e2⟩ := q5 k hka
      have e3 := q3 (k * 3 + 2)
      have hz2 := hbb.size
      have ho3 : ROwn 9 1 w2 w.heap.size (.slice a2 l[k].log.length c2) (l[k].log.map fun s => [Value.string s]) := ho2.lower (by simp; omega)
      have HO2 := Lib.hid (q6 k hka a2 c2)
      rw [HAK.out] at HO2
      have HL2 := Lib.hid ((hlo.off (j := k * 3 + 2) q4 (.slice a2 l[k].log.length c2)).next (t := l[k].relog a2 c2) hka (own_setCell_off ho3 _ (typed_ne ho3 q4 (by decide))))
      have HT2 : Hid ((acc.set k (l[k].relog a2 c2)).map TB.tp = l.map TB.tp) := Lib.hid (by
        rw [List.map_set, HT.out]
        show (l.map TB.tp).set k l[k].tp = _
        rw [← List.getElem_map (f := TB.tp) (h := by simpa using hlt)]
        exact List.set_getElem_self _)
      have HA2 : Hid (∀ (i : Nat) (h1 : i < (acc.set k (l[k].relog a2 c2)).length) (h2 : i < l.length), k + 1 ≤ i → (acc.set k (l[k].relog a2 c2))[i] = l[i]) := Lib.hid (fun i h1 h2 hi => by
        rw [List.getElem_set_ne (by omega)]
        exact HA.out i (by simpa using h1) h2 (by omega))
      have HB3 := Lib.hid (bset (p := ⟨g, k * 3 + 2, none⟩) (.slice a2 l[k].log.length c2) (by show w.heap.size ≤ g; omega) HB2.out)
      rw [HAK.out] at e2
      clear ho2 hb2 hbb hoo hlo q3 q4 q5 q6 ho3 hba d0 d1 d2 g3 g4
      go_wp2_with fail
      go_roundw
      case rel => exact ⟨k + 1, acc.set k (l[k].relog a2 c2), by omega, by go_num, by simpa using hal, HT2, HA2, HO2, HL2, HB3, by simp; omega⟩
      case measure => simp [intOf] <;> omega
    · have hk2 : k = l.length := by omega
      have HL3 : Hid (TLogO wo w.heap.size acc l.length) := by rw [← hk2]; exact HL
      clear hk2
      go_wp2_with fail
      go_ret
      exact ⟨a1, c1, acc, rfl, hal, HT.out, HOW.out, HL3.out, HW.out⟩
end Go.Proofs.Ytcbnehplilpidaa
