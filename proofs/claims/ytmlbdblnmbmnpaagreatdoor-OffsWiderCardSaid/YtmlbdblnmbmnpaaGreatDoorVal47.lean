/- joined: values. -/
import Derived.Test.YtmlbdblnmbmnpaaGreatDoorProg
import Derived.WalkKit
import Derived.WalkSpells
import Derived.WalkLawsBesides
import Derived.Lib.Hide
import Derived.Deep.RegionWith
import Derived.Test.YtmlbdblnmbmnpaaGreatDoorFacts
import Derived.Test.YtmlbdblnmbmnpaaGreatDoorNumV
import Derived.Test.YtmlbdblnmbmnpaaGreatDoorShelf
import Derived.Test.YtmlbdblnmbmnpaaGreatDoorDraws
set_option linter.unusedVariables false
set_option linter.unusedSimpArgs false
namespace Go.Proofs.YtmlbdblnmbmnpaaGreatDoor
open Go.RowKit Tryst
set_option maxHeartbeats 400000
set_option maxRecDepth 20000
def few (s : ByteArray) : ByteArray := if 70 < s.size then s.extract 0 70 else s
theorem few_le (s : ByteArray) : (few s).size ≤ 70 := by
 unfold few; split
 ·
  simp; omega
 ·
  omega
theorem rlay_c {x : Bool} {n : Int} {s : ByteArray} (hs : s.size ≤ 1000000000) (h0 : -9223372036854775808 ≤ n) (h1 : n ≤ 9223372036854775807) (w : World) :
  Calls Tryz.prog 111 #[.agg #[.bool x, .int .i64 n, .string s]] w fun e w' => e = .returned (.string ⟨(V.lay ⟨x, n, s.data.toList⟩).toArray⟩) ∧ Below w.heap.size w w' := by
 have hl1 : (pack (fold n)).length ≤ 1000000 := by have := packF_length 9 (fold n); unfold pack; omega
 have hl2 : (pack s.size).length ≤ 1000000 := by have := packF_length 9 s.size; unfold pack; omega
 have hf : (fold n : Nat) ≤ 18446744073709551615 := by have := fold_lt (n := n) (by omega) (by omega); omega
 cases x with
 | true =>
  go_enter Tryz.func111, Tryz.ntmps111
  go_wp2_with (first | (go_at_call 131; refine (rfold_c n (by omega) (by omega) _).mono ?_; rintro e w2 ⟨rfl, rfl⟩) | (go_at_call 110; refine (rpackAll_c _ _ (by omega) (by omega)).mono ?_; rintro e w2 ⟨rfl, hb2⟩; rw [Int.toNat_natCast]))
  go_ret
  refine ⟨ret_eq ?_, ?_⟩
  ·
   show Value.string _ = _
   rw [show V.lay ⟨true, n, s.data.toList⟩ = [1] ++ pack (fold n) from rfl, ← ByteArray.mk_append_mk]
  ·
   (repeat (first | exact Below.refl _ _ | assumption | refine bdrew ?_ | refine balloc _ ?_ | refine bset _ (by simp) ?_ | refine bstep (by assumption) ?_ | refine Grow.below (by assumption) ?_ | refine Tryst2.Grow.below (by assumption) ?_))
 | false =>
  have hw8 : IntKind.u64.wrap (s.size : Int) = s.size := by rw [IntKind.wrap_u64]; omega
  go_enter Tryz.func111, Tryz.ntmps111
  go_wp2_with fail
  refine Tryst2.wp_region_grows [.is (.pointer (some ⟨w.heap.size, 2, none⟩)), .is (.string s), .is (.int .i64 s.size), .is (.int .u64 s.size), .is (.string ⟨(pack s.size).toArray⟩), .is (.string (⟨#[2]⟩ ++ ⟨(pack s.size).toArray⟩)), .is (.pointer (some ⟨w.heap.size, 2, none⟩)), .is (.string s), .is (.string (⟨#[2]⟩ ++ ⟨(pack s.size).toArray⟩ ++ s))] (by kernel_rfl) (by kernel_rfl) ?obl ?fin
  case obl =>
   simp only [YA, YL, YO, YR, Op.operands, Call.operands]
   repeat' apply And.intro
   any_goals trivial
   all_goals (intro tv w' hg hold hd; (try simp at hold); obtain ⟨hcg, hfg, hsg⟩ := YG hg)
   all_goals first | (go_simp; done) | (go_simp; rw [if_neg (by omega)]; exact ⟨.refl _, rfl⟩) | (obtain ⟨⟨g, hvg, hgg, hcell⟩, _⟩ := hd; have hcell0 := hcell 0 (by decide); simp at hcell0; go_simp; done) | (go_simp; go_at_call 110; refine (rpackAll_c _ _ (by omega) (by omega)).mono ?_; rintro e w2 ⟨rfl, hb2⟩; rw [Int.toNat_natCast]; exact ⟨hb2, rfl⟩)
  case fin =>
   intro tv w' hg hR
   simp only [YF, YL, YR] at hR
   obtain ⟨hcg, hfg, hsg⟩ := YG hg
   simp only [YP, YL, Act.put, hR]
   go_wp2
   go_ret
   refine ⟨ret_eq ?_, ?_⟩
   ·
    show Value.string _ = _
    rw [show V.lay ⟨false, n, s.data.toList⟩ = [2] ++ pack s.data.toList.length ++ s.data.toList from rfl, ← ByteArray.mk_append_mk, ← ByteArray.mk_append_mk, len_str]
   ·
    (repeat (first | exact Below.refl _ _ | assumption | refine bdrew ?_ | refine balloc _ ?_ | refine bset _ (by simp) ?_ | refine bstep (by assumption) ?_ | refine Grow.below (by assumption) ?_ | refine Tryst2.Grow.below (by assumption) ?_))
end Go.Proofs.YtmlbdblnmbmnpaaGreatDoor
namespace Go.Proofs.YtmlbdblnmbmnpaaGreatDoor
open Go.RowKit Tryst
set_option maxHeartbeats 400000
set_option maxRecDepth 20000
end Go.Proofs.YtmlbdblnmbmnpaaGreatDoor
namespace Go.Proofs.YtmlbdblnmbmnpaaGreatDoor
open Go.RowKit Tryst
set_option maxHeartbeats 400000
set_option maxRecDepth 20000
end Go.Proofs.YtmlbdblnmbmnpaaGreatDoor
namespace Go.Proofs.YtmlbdblnmbmnpaaGreatDoor
open Go.RowKit Tryst
set_option maxHeartbeats 400000
set_option maxRecDepth 20000
end Go.Proofs.YtmlbdblnmbmnpaaGreatDoor
namespace Go.Proofs.YtmlbdblnmbmnpaaGreatDoor
open Go.RowKit Tryst
set_option maxHeartbeats 400000
set_option maxRecDepth 20000
end Go.Proofs.YtmlbdblnmbmnpaaGreatDoor
namespace Go.Proofs.YtmlbdblnmbmnpaaGreatDoor
open Go.RowKit Tryst
set_option maxHeartbeats 400000
set_option maxRecDepth 20000
end Go.Proofs.YtmlbdblnmbmnpaaGreatDoor
