/- Put, in all cases. -/
import Derived.Test.YtfohdjgalmodbaaProg
import Derived.WalkKit
import Derived.WalkSpells
import Derived.WalkLawsBesides
import Derived.Lib.Hide
import Derived.Deep.RegionWith
import Derived.Deep.Cut
import Derived.Test.YtfohdjgalmodbaaEv1
import Derived.Test.YtfohdjgalmodbaaEv8
import Derived.Test.YtfohdjgalmodbaaEv9
set_option linter.unusedVariables false
set_option linter.unusedSimpArgs false
namespace Go.Proofs.Ytfohdjgalmodbaa
open Go.RowKit Tryst
set_option maxHeartbeats 400000
set_option maxRecDepth 20000
theorem idx_find {l : List FB} {n : ByteArray} (h : idxB (fun f => f.name.toList == n.toList) l = -1) : findB l n = none := by
  rcases idx_cases l n with ⟨k, _, h1, _⟩ | ⟨_, h2⟩
  · rw [h1] at h; omega
  · exact h2
theorem put_c (t p : ByteArray) (q : Int) (a : Option Addr) (c : Nat) (l : List FB) (hl : l.length ≤ 1000000000) (hS : Sl a c l.length) (f : FB) (w : World) (hF : Flds w a l) :
    Calls Try.prog 15 #[.agg #[.string t, .string p, .int .u64 q, .slice a l.length c], .string f.name, .agg #[.bool f.num, .int .i64 f.n, .string f.s]] w fun e w' => EvR w t p q (putB l f) e w' := by
  obtain ⟨hc, hs, hz⟩ := hS
  cases a with
  | none =>
    have := hz rfl
    subst this
    have : l = [] := List.eq_nil_of_length_eq_zero (by omega)
    subst this
    exact put_nil t p q f w
  | some A =>
    obtain ⟨b, o, s⟩ := A
    have hs' : s = none := hs _ rfl
    subst hs'
    have hb : 0 < l.length → b < w.heap.size := fun h => by
      obtain ⟨b', o', h1, h2⟩ := hF.head h
      cases h1
      exact h2
    rcases idx_cases l f.name with ⟨k, hk, h1, h2⟩ | ⟨h1, h2⟩
    · rw [show putB l f = setB l f by unfold putB; rw [h2]; rfl]
      exact put_found t p q b o c l hl f w hF k hk h1 (hb (by omega))
    · rw [show putB l f = insB l f by unfold putB; rw [h2]; rfl]
      rcases above_cases l f with ⟨k, hk, g1, g2⟩ | ⟨g1, g2⟩
      · exact put_new t p q b o c l hl hc f w hF k hk h1 g1 g2 (hb (by omega))
      · exact put_end t p q b o c l hl hc f w hF h1 g1 g2 hb
end Go.Proofs.Ytfohdjgalmodbaa
