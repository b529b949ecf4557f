/- The walk of the closure in event.Lay that writes a text. -/
import Derived.Test.YtfohdjgalmodbaaProg
import Derived.WalkKit
import Derived.WalkSpells
import Derived.WalkLawsBesides
import Derived.Lib.Hide
import Derived.Deep.RegionWith
import Derived.Deep.Cut
import Derived.Test.YtfohdjgalmodbaaEv14
import Derived.Test.YtfohdjgalmodbaaFacts
import Derived.Test.YtfohdjgalmodbaaBld
import Derived.Test.YtfohdjgalmodbaaVal4
import Derived.Test.YtfohdjgalmodbaaShelf
import Derived.Lib.BufferKept
set_option linter.unusedVariables false
set_option linter.unusedSimpArgs false
namespace Go.Proofs.Ytfohdjgalmodbaa
open Go.RowKit Tryst
set_option maxHeartbeats 400000
set_option maxRecDepth 20000
theorem Bld.grow {w w' : World} {B b : Nat} {l : List UInt8} (h : Bld w B b l) (hb : Below w.heap.size w w') : Bld w' B b l := by
  have key : ∀ {p : Value} {bs : List Value}, Lib.BuilderAt 62 5 B b p bs w → Lib.BuilderAt 62 5 B b p bs w' := by
    intro p bs h
    have hlt := h.lt
    obtain ⟨hB, v, hv, hown, hne⟩ := h
    exact ⟨hB, v, (hb.block b hlt).trans hv, own_kept hown hb, hne⟩
  rcases h with h | h
  · exact .inl (key h)
  · exact .inr (key h)
theorem Bld.lt {w : World} {B b : Nat} {l : List UInt8} (h : Bld w B b l) : B ≤ b ∧ b < w.heap.size := by
  rcases h with h | h
  · exact ⟨h.1, h.lt⟩
  · exact ⟨h.1, h.lt⟩
theorem Kept.refl (b : Nat) (w : World) : Kept b w w := Lib.OthersKept.refl _ _ _
theorem Kept.trans {b : Nat} {u v w : World} (h : Kept b u v) (k : Kept b v w) : Kept b u w := Lib.OthersKept.trans h k
theorem Kept.below {b : Nat} {v w : World} (h : Below v.heap.size v w) : Kept b v w := Lib.OthersKept.below (Lib.OthersKept.refl _ _ _) h
theorem Kept.box {b g : Nat} {v w : World} {cs : Array Value} {T : TypeId} (h : Kept b v w) (hg : v.heap[g]? = some (.cells cs T (0, 0))) (hgb : g ≠ b) (hT : T ≠ 5) : w.heap[g]? = some (.cells cs T (0, 0)) :=
  h g _ hg (by simpa using hgb) (fun c fz e => hT (by injection e))
theorem len_wrap (n : Nat) (h : n ≤ 1000000000) : IntKind.u64.wrap (n : Int) = n := by rw [IntKind.wrap_u64]; omega
theorem _root_.Tryst.mk_size (l : List UInt8) : (ByteArray.mk l.toArray).size = l.length := rfl
theorem text_c (B b : Nat) (l : List UInt8) (s : ByteArray) (w : World) (h : Bld w B b l) (hl : l.length ≤ 900000000) (hs : s.size ≤ 1000000000) (hBw : B ≤ w.heap.size) :
    Calls Try.prog 35 #[.string s, .pointer (some ⟨b, 0, none⟩)] w fun e w' => e = .returned (.tuple #[]) ∧ Bld w' B b (l ++ textL s.data.toList) ∧ Below B w w' ∧ Kept b w w' := by
  have HB0 := Lib.hid h
  have hw8 : IntKind.u64.wrap (s.size : Int) = s.size := len_wrap _ hs
  have hpl : (pack s.size).length ≤ 10 := pack_le _
  clear h
  go_enter Try.func35, Try.ntmps35
  go_wp2_with fail
  refine (packAll_c _ _ (by omega) (by omega)).mono ?_
  rintro e w1 ⟨rfl, hb1⟩
  rw [Int.toNat_natCast]
  have HB1 := Lib.hid (HB0.out.grow hb1)
  have hz1 : w.heap.size ≤ w1.heap.size := hb1.size
  have KB1 := Lib.hid (hb1.mono hBw)
  have KK1 := Lib.hid (Kept.below (b := b) hb1)
  clear hb1 HB0
  go_wp2_with fail
  refine (write_c B b _ _ _ HB1.out (by omega) (by rw [mk_size]; omega) (by omega)).mono ?_
  rintro e w2 ⟨rfl, hB2, hb2, hk2⟩
  rw [mk_str] at hB2
  have hz2 : w1.heap.size ≤ w2.heap.size := hb2.size
  have HB2 := Lib.hid hB2
  have KB2 := Lib.hid (KB1.out.trans hb2)
  have KK2 := Lib.hid (KK1.out.trans hk2)
  clear hB2 hb2 hk2 HB1 KB1 KK1
  go_wp2_with fail
  refine (write_c B b _ _ _ HB2.out (by rw [List.length_append]; omega) hs (by omega)).mono ?_
  rintro e w3 ⟨rfl, hB3, hb3, hk3⟩
  have HB3 := Lib.hid hB3
  have KB3 := Lib.hid (KB2.out.trans hb3)
  have KK3 := Lib.hid (KK2.out.trans hk3)
  clear hB3 hb3 hk3 HB2 KB2 KK2
  go_wp2_with fail
  go_end0
  refine ⟨rfl, ?_, KB3.out, KK3.out⟩
  have := HB3.out
  unfold textL
  rwa [len_str, ← List.append_assoc]
end Go.Proofs.Ytfohdjgalmodbaa
