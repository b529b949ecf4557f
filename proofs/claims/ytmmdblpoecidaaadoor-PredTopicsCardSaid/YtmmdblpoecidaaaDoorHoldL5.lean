/- Holds of leaves: has, eq, lt -/
import Derived.Test.YtmmdblpoecidaaaDoorProg
import Derived.WalkKit
import Derived.WalkSpells
import Derived.WalkLawsBesides
import Derived.Lib.Hide
import Derived.Deep.RegionWith
import Derived.Deep.Cut
import Derived.IntWalk
import Derived.Test.YtmmdblpoecidaaaDoorHolds5
import Derived.Test.YtmmdblpoecidaaaDoorMethL
import Derived.Test.YtmmdblpoecidaaaDoorParse5
set_option linter.unusedVariables false
set_option linter.unusedSimpArgs false
namespace Go.Proofs.YtmmdblpoecidaaaDoor
open Go.RowKit Tryst
set_option maxHeartbeats 2000000
set_option maxRecDepth 20000
theorem holds_has_c (s : ByteArray) (v : V) (hs : s.size ≤ 1000000000) (hv : v.s.length ≤ 1000000000) (t p : ByteArray) (q : Int) (ea : Option Addr) (l : List FB) (ec : Nat) (hl : l.length ≤ 1000000000) (w : World) (hM : MaxW w) (hF : Flds w ea l) :
    Calls Tryd.prog 12 #[(leafB ⟨#[104, 97, 115]⟩ s v).agg, .agg #[.string t, .string p, .int .u64 q, .slice ea l.length ec]] w fun e w' => e = .returned (.bool (mayP (leafB ⟨#[104, 97, 115]⟩ s v).pr && (findB l s).isSome)) ∧ Below w.heap.size w w' :=
  holdsG_c _ t p q ea l.length ec _ w hM (leaf_mem _ s v hs hv w) fun W g mb hb hA => holds_via .has s v.num v.n ⟨v.s.toArray⟩ none 0 0 g mb t p q _ _ W hA fun W2 hb2 => has5_c _ s v.num v.n ⟨v.s.toArray⟩ none 0 0 g mb t p q ea l ec hl W2 (hA.grow (hb2.mono (Nat.le_refl _))) (hF.grow (hb.trans (hb2.mono hb.size)))
theorem holds_eq_c (s : ByteArray) (v : V) (hs : s.size ≤ 1000000000) (hv : v.s.length ≤ 1000000000) (t p : ByteArray) (q : Int) (ea : Option Addr) (l : List FB) (ec : Nat) (hl : l.length ≤ 1000000000) (w : World) (hM : MaxW w) (hF : Flds w ea l) :
    Calls Tryd.prog 12 #[(leafB ⟨#[101, 113]⟩ s v).agg, .agg #[.string t, .string p, .int .u64 q, .slice ea l.length ec]] w fun e w' => e = .returned (.bool (mayP (leafB ⟨#[101, 113]⟩ s v).pr && eqB l s v.num v.n ⟨v.s.toArray⟩)) ∧ Below w.heap.size w w' :=
  holdsG_c _ t p q ea l.length ec _ w hM (leaf_mem _ s v hs hv w) fun W g mb hb hA => holds_via .eq s v.num v.n ⟨v.s.toArray⟩ none 0 0 g mb t p q _ _ W hA fun W2 hb2 => eq5_c _ s v.num v.n ⟨v.s.toArray⟩ none 0 0 g mb t p q ea l ec hl W2 (hA.grow (hb2.mono (Nat.le_refl _))) (hF.grow (hb.trans (hb2.mono hb.size)))
theorem holds_lt_c (s : ByteArray) (v : V) (hs : s.size ≤ 1000000000) (hv : v.s.length ≤ 1000000000) (t p : ByteArray) (q : Int) (ea : Option Addr) (l : List FB) (ec : Nat) (hl : l.length ≤ 1000000000) (w : World) (hM : MaxW w) (hF : Flds w ea l) :
    Calls Tryd.prog 12 #[(leafB ⟨#[108, 116]⟩ s v).agg, .agg #[.string t, .string p, .int .u64 q, .slice ea l.length ec]] w fun e w' => e = .returned (.bool (mayP (leafB ⟨#[108, 116]⟩ s v).pr && ltB l s v.num v.n ⟨v.s.toArray⟩)) ∧ Below w.heap.size w w' :=
  holdsG_c _ t p q ea l.length ec _ w hM (leaf_mem _ s v hs hv w) fun W g mb hb hA => holds_via .lt s v.num v.n ⟨v.s.toArray⟩ none 0 0 g mb t p q _ _ W hA fun W2 hb2 => lt5_c _ s v.num v.n ⟨v.s.toArray⟩ none 0 0 g mb t p q ea l ec hl W2 (hA.grow (hb2.mono (Nat.le_refl _))) (hF.grow (hb.trans (hb2.mono hb.size)))
end Go.Proofs.YtmmdblpoecidaaaDoor
