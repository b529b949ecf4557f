/- The walk of slices.Clone at fields. -/
import Derived.Test.YtfohdjgalmodbaaProg
import Derived.WalkKit
import Derived.WalkSpells
import Derived.WalkLawsBesides
import Derived.Lib.Hide
import Derived.Deep.RegionWith
import Derived.Deep.Cut
import Derived.Test.YtfohdjgalmodbaaOwnF
import Derived.Test.YtfohdjgalmodbaaEv3
import Derived.Test.YtfohdjgalmodbaaPutB
set_option linter.unusedVariables false
set_option linter.unusedSimpArgs false
namespace Go.Proofs.Ytfohdjgalmodbaa
open Go.RowKit Tryst
set_option maxHeartbeats 400000
set_option maxRecDepth 20000
def CloneR (w : World) (l : List FB) (e : Ending) (w' : World) : Prop := ∃ a c, e = .returned (.slice a l.length c) ∧ FOwn 42 w' w.heap.size (.slice a l.length c) l ∧ Below w.heap.size w w'
theorem flds_cells {w : World} {b o : Nat} {l : List FB} (h : Flds w (some ⟨b, o, none⟩) l) : ∀ (j : Nat) u, (l.flatMap FB.cells)[j]? = some u → w.cell? ((⟨b, o, none⟩ : Addr).add j) = some u := by
  intro j u hj
  have hjl : j < l.length * 4 := by rw [← flat_len]; exact (List.getElem?_eq_some_iff.1 hj).1
  have hi : j / 4 < l.length := by omega
  obtain ⟨_, f0, f1, f2, f3⟩ := h.at hi
  have e := flat_at l (j / 4) hi (j % 4) (by omega)
  rw [show j / 4 * 4 + j % 4 = j by omega, hj] at e
  rw [Addr.add_lit]
  have hm : j % 4 = 0 ∨ j % 4 = 1 ∨ j % 4 = 2 ∨ j % 4 = 3 := by omega
  rcases hm with hm | hm | hm | hm <;> rw [hm] at e <;> simp [FB.cells] at e <;> subst e
  · rw [show o + j = o + j / 4 * 4 by omega]; exact f0
  · rw [show o + j = o + j / 4 * 4 + 1 by omega]; exact f1
  · rw [show o + j = o + j / 4 * 4 + 2 by omega]; exact f2
  · rw [show o + j = o + j / 4 * 4 + 3 by omega]; exact f3
theorem _root_.Tryst.FOwn.empty (e : TypeId) (w : World) (base : Nat) (h : base ≤ w.heap.size) : FOwn e (w.alloc (.cells #[] e)) base (.slice (some ⟨w.heap.size, 0, none⟩) 0 0) [] := by
  refine ⟨rfl, .inr ⟨w.heap.size, 0, #[], rfl, h, ?_, Nat.le_refl _, by unfold maxLen; omega, rfl, rfl⟩⟩
  show (w.heap.push _)[w.heap.size]? = _; simp
theorem cells_one (l : List FB) : ∀ u ∈ l.flatMap FB.cells, u.oneCell' = true := by
  intro u hu
  obtain ⟨f, _, hf⟩ := List.mem_flatMap.1 hu
  simp [FB.cells] at hf
  rcases hf with rfl | rfl | rfl | rfl <;> rfl
theorem clone_c (b o c : Nat) (l : List FB) (hl : l.length ≤ 1000000000) (h0 : 0 < l.length) (w : World) (hF : Flds w (some ⟨b, o, none⟩) l) :
    Calls Try.prog 27 #[.slice (some ⟨b, o, none⟩) l.length c] w fun e w' => CloneR w l e w' := by
  have HF := Lib.hid hF
  clear hF
  go_enter Try.func27, Try.ntmps27
  have hq := fun (w : World) (a : Option Addr) (n c : Nat) => Lib.run_eql_slice_nil (P := Try.prog) w 23 42 a n c 0 0 Try.underlying23
  have hO : FOwn 42 (w.alloc (.cells #[] 42)) w.heap.size (.slice (some ⟨w.heap.size, 0, none⟩) 0 0) [] := FOwn.empty _ _ _ (Nat.le_refl _)
  have HO := Lib.hid hO
  have HFC := Lib.hid (flds_cells (HF.out.grow (balloc (.cells #[] 42) (.refl _ w))))
  clear hO HF
  go_wp2_with (at_builtin; refine wpList_appS fldT rfl _ _ rfl w.heap.size _ [] rfl HO.out l l.length rfl b o c rfl HFC.out (by simp; omega) (by simp) ?_; intro a' c' w1 ho hb)
  go_ret
  refine ⟨a', c', ?_, ?_, ?_⟩
  · simp
  · simpa using ho
  · exact (balloc _ (.refl _ _)).trans hb
end Go.Proofs.Ytfohdjgalmodbaa
