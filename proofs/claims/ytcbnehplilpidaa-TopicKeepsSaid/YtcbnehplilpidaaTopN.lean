/- The walk of topic.Append. -/
import Derived.Test.YtcbnehplilpidaaProg
import Derived.WalkKit
import Derived.WalkSpells
import Derived.WalkLawsBesides
import Derived.Lib.Hide
import Derived.Deep.RegionWith
import Derived.Deep.Cut
import Derived.IntWalk
import Derived.ArgAppend
import Derived.Test.YtcbnehplilpidaaTopL
import Derived.Test.YtcbnehplilpidaaTopH
import Derived.Test.YtcbnehplilpidaaAw4s
import Derived.Test.YtcbnehplilpidaaTopM
set_option linter.unusedVariables false
set_option linter.unusedSimpArgs false
namespace Go.Proofs.Ytcbnehplilpidaa
open Go.RowKit Tryst
set_option maxHeartbeats 400000
set_option maxRecDepth 20000
/-- topics with an event's octets at their topic's end: the topics, the number, the error's number; may: may the event be? -/
def appP (L : List Tp) (may : Bool) (n s : ByteArray) : List Tp × Int × Nat :=
  if topsMay L = true ∧ may = true then match findT L n with
    | none => if 20 ≤ L.length then ([], 0, 6) else (L.take (aheadT L n) ++ ⟨n, 0, [s]⟩ :: L.drop (aheadT L n), 0, 0)
    | some i => match L[i]? with
      | none => ([], 0, 6)
      | some t => if 100 ≤ t.log.length ∨ 1099511627775 ≤ t.first + (t.log.length : Int) then ([], 0, 6) else (L.set i ⟨t.name, t.first, t.log ++ [s]⟩, t.first + (t.log.length : Int), 0)
  else ([], 0, 1)
def AppR (w : World) (p : List Tp × Int × Nat) (e : Ending) (w' : World) : Prop := ∃ a c l', e = .returned (.tuple #[.slice a p.1.length c, .int .i64 p.2.1, .int .i64 p.2.2]) ∧ l'.map TB.tp = p.1 ∧ Tops w' a l' ∧ Sl a c p.1.length ∧ Below w.heap.size w w'
theorem AppR.bad {w w' : World} {k : Nat} {e : Ending} (he : e = .returned (.tuple #[.slice none 0 0, .int .i64 0, .int .i64 k])) (hb : Below w.heap.size w w') : AppR w ([], 0, k) e w' :=
  ⟨none, 0, [], he, rfl, Tops.nil _ _, ⟨Nat.le_refl _, fun A h => (by cases h), fun _ => rfl⟩, hb⟩
def CloneP (base : Nat) (l : List TB) (v : Value) (w : World) : Prop := ∃ a c l', v = .slice a l'.length c ∧ l'.length = l.length ∧ l'.map TB.tp = l.map TB.tp ∧ TOwn w base (.slice a l'.length c) l' ∧ TLogO w base l' l'.length
theorem TLogO.lower {w : World} {base base' : Nat} {l : List TB} {k : Nat} (h : TLogO w base l k) (hb : base' ≤ base) : TLogO w base' l k := fun i hi hk => (h i hi hk).lower hb
theorem CloneP.at {base : Nat} {l : List TB} {v : Value} {w' : World} (h : ∃ w0, Tryst2.Grow w0 w' ∧ CloneP base l v w0) : CloneP base l v w' := by
  obtain ⟨w0, hg, a, c, l', h1, h2, h3, h4, h5⟩ := h
  exact ⟨a, c, l', h1, h2, h3, h4.grow hg, h5.grow hg⟩
theorem CloneP.of {w w' : World} {base : Nat} {l : List TB} {e : Ending} (hb : base ≤ w.heap.size) (h : CloneTR w l e w') : ∃ v, e = .returned v ∧ Tryst2.Grow w w' ∧ ∃ w0, Tryst2.Grow w0 w' ∧ CloneP base l v w0 := by
  obtain ⟨a, c, l', rfl, h1, h2, h3, h4, h5⟩ := h
  rw [← h1] at h3 h4 ⊢
  exact ⟨_, rfl, h5, w', Tryst2.Grow.refl _, a, c, l', rfl, h1, h2, ROwn.lower h3 hb, h4.lower hb⟩
theorem _root_.Tryst.ROwn.cap {e : TypeId} {k : Nat} {w : World} {base : Nat} {a : Option Addr} {n c : Nat} {l : List (List Value)} (h : ROwn e k w base (.slice a n c) l) : c ≤ 9223372036854775807 := by
  rcases h.2 with ⟨hv, _⟩ | ⟨g, cap, cur, hv, _, _, _, h2, _⟩
  · cases hv; omega
  · cases hv; exact h2
/-- where a topic is put into a call's own topics: their logs stay -/
theorem ins_logs {w w' : World} {base : Nat} {a : Option Addr} {n c : Nat} {l : List TB} {t : TB} {k : Nat} (hO : TOwn w base (.slice a n c) l) (hL : TLogO w base l l.length) (hk : ∀ k, k < w.heap.size → Away (.slice a n c) k → w'.heap[k]? = w.heap[k]?) (ht : Strs w' t.la t.log ∧ Sl t.la t.lc t.log.length) : TLogs w' (l.take k ++ t :: l.drop k) := by
  have h0 : ∀ x ∈ l, Strs w' x.la x.log ∧ Sl x.la x.lc x.log.length := fun x hx => by
    obtain ⟨i, hi, rfl⟩ := List.getElem_of_mem hx
    have h1 := hL i hi hi
    refine rows_strs (own_stays h1 fun A n' c' hv => ?_)
    obtain ⟨cur, hcur⟩ := own_typed h1 A n' c' hv
    refine hk _ (Array.getElem?_eq_some_iff.1 hcur).1 fun A' n'' c'' hv' hb => ?_
    exact typed_ne hO hcur (by decide) A' n'' c'' hv' hb
  intro x hx
  rcases List.mem_append.1 hx with h | h
  · exact h0 x (List.mem_of_mem_take h)
  · rcases List.mem_cons.1 h with rfl | h
    · exact ht
    · exact h0 x (List.mem_of_mem_drop h)
/-- a new slice of one topic -/
def OneP (t : TB) (v : Value) (w : World) : Prop := ∃ g, v = .slice (some ⟨g, 0, none⟩) 1 1 ∧ w.heap[g]? = some (.cells #[.string t.name, .int .i64 t.first, .slice t.la t.log.length t.lc] 74 (0, 0))
theorem OneP.at {t : TB} {v : Value} {w' : World} (h : ∃ w0, Tryst2.Grow w0 w' ∧ OneP t v w0) : OneP t v w' := by
  obtain ⟨w0, hg, g, h1, h2⟩ := h
  exact ⟨g, h1, (hg.block g (Array.getElem?_eq_some_iff.1 h2).1).trans h2⟩
theorem OneP.of (w : World) (t : TB) : Tryst2.Grow w (w.alloc (.cells #[.string t.name, .int .i64 t.first, .slice t.la t.log.length t.lc] 74)) ∧ ∃ w0, Tryst2.Grow w0 (w.alloc (.cells #[.string t.name, .int .i64 t.first, .slice t.la t.log.length t.lc] 74)) ∧ OneP t (.slice (some ⟨w.heap.size, 0, none⟩) 1 1) w0 :=
  ⟨balloc _ (.refl _ _), _, Tryst2.Grow.refl _, w.heap.size, rfl, by show (w.heap.push _)[w.heap.size]? = _; simp⟩
def PlRel (w : World) (l : List TB) (n : ByteArray) (i : Value) (wr : World) : Prop := ∃ k : Nat, k ≤ l.length ∧ i = .int .i64 k ∧ Hid (∀ (j : Nat) (h : j < (l.map TB.tp).length), j < k → lessB (l.map TB.tp)[j].name n = true) ∧ Hid (Below w.heap.size w wr)
/-- a topic of the call's own gets another log -/
theorem TOwn.put1 {w : World} {base : Nat} {v : Value} {l : List TB} (h : TOwn w base v l) {g : Nat} {n c : Nat} (hv : v = .slice (some ⟨g, 0, none⟩) n c) {i : Nat} (hi : i < l.length) (a : Option Addr) (lg : List ByteArray) (c' : Nat) :
    TOwn (w.setCell ⟨g, i * 3 + 2, none⟩ (.slice a lg.length c')) base v (l.set i ⟨l[i].name, l[i].first, a, lg, c'⟩) := by
  have hlen := TB.cells_len l
  obtain ⟨g1, c1, hv1, _, _, _, _, h5⟩ := ROwn.block h hlen (by simpa using (by omega : 0 < l.length))
  rw [hv] at hv1
  simp only [Value.slice.injEq, Option.some.injEq, Addr.mk.injEq, and_true] at hv1
  obtain ⟨rfl, _⟩ := hv1
  have h6 := h5 i (by simpa using hi) 2 (by omega) (.slice a lg.length c')
  have e1 : (l.map TB.cells).set i (((l.map TB.cells)[i]'(by simpa using hi)).set 2 (.slice a lg.length c')) = (l.set i ⟨l[i].name, l[i].first, a, lg, c'⟩).map TB.cells := by
    rw [List.map_set, List.getElem_map]
    rfl
  rw [e1] at h6
  exact h6
theorem TLogO.put1 {w : World} {base : Nat} {l : List TB} (h : TLogO w base l l.length) {g j : Nat} {cur : Array Value} (hg : w.heap[g]? = some (.cells cur 74 (0, 0))) (u : Value) {i : Nat} {t : TB} (ht : Strs w t.la t.log ∧ Sl t.la t.lc t.log.length) (ha : ∀ b o, t.la = some ⟨b, o, none⟩ → g ≠ b) :
    TLogs (w.setCell ⟨g, j, none⟩ u) (l.set i t) := by
  intro x hx
  obtain ⟨k, hk, rfl⟩ := List.getElem_of_mem hx
  rw [List.length_set] at hk
  by_cases e : i = k
  · subst e
    rw [List.getElem_set_self]
    exact ⟨ht.1.away ha u, ht.2⟩
  · rw [List.getElem_set_ne e]
    have h1 := h k hk hk
    exact rows_strs (own_setCell_off h1 u (typed_ne h1 hg (by decide)))
/-- topics' logs lie in blocks from base on -/
def NewL (base : Nat) (l : List TB) : Prop := ∀ t ∈ l, ∀ b o, t.la = some ⟨b, o, none⟩ → base ≤ b
theorem NewL.mono {base base' : Nat} {l : List TB} (h : NewL base l) (hb : base' ≤ base) : NewL base' l := fun t ht b o e => Nat.le_trans hb (h t ht b o e)
theorem NewL.set {base : Nat} {l : List TB} (h : NewL base l) (i : Nat) {t : TB} (ht : ∀ b o, t.la = some ⟨b, o, none⟩ → base ≤ b) : NewL base (l.set i t) := fun x hx => by
  rcases List.mem_or_eq_of_mem_set hx with h1 | rfl
  · exact h x h1
  · exact ht
theorem NewL.ins {base base' B : Nat} {l : List TB} (h : NewL base l) (k : Nat) {t : TB} (ht : ∀ b o, t.la = some ⟨b, o, none⟩ → B ≤ b) (hb : base' ≤ base) (hB : base' ≤ B) : NewL base' (l.take k ++ t :: l.drop k) := fun x hx => by
  rcases List.mem_append.1 hx with h1 | h1
  · exact fun b o e => Nat.le_trans hb (h x (List.mem_of_mem_take h1) b o e)
  · rcases List.mem_cons.1 h1 with rfl | h1
    · exact fun b o e => Nat.le_trans hB (ht b o e)
    · exact fun b o e => Nat.le_trans hb (h x (List.mem_of_mem_drop h1) b o e)
theorem newL_of {w : World} {base : Nat} {l : List TB} (h : TLogO w base l l.length) : NewL base l := fun t ht b o e => by
  obtain ⟨i, hi, rfl⟩ := List.getElem_of_mem ht
  have h1 := h i hi hi
  rw [e] at h1
  exact (World.ownsRow.lt h1 b rfl).1
theorem _root_.Tryst.ROwn.lt0 {e : TypeId} {k : Nat} {w : World} {base b o n c : Nat} {l : List (List Value)} (h : ROwn e k w base (.slice (some ⟨b, o, none⟩) n c) l) : base ≤ b ∧ b < w.heap.size := World.ownsRow.lt h b rfl
/-- .. that the call made itself -/
def AppRO (w : World) (p : List Tp × Int × Nat) (e : Ending) (w' : World) : Prop := ∃ a c l', e = .returned (.tuple #[.slice a p.1.length c, .int .i64 p.2.1, .int .i64 p.2.2]) ∧ l'.map TB.tp = p.1 ∧ Tops w' a l' ∧ Sl a c p.1.length ∧ Below w.heap.size w w' ∧ NewL w.heap.size l' ∧ ∀ b o, a = some ⟨b, o, none⟩ → w.heap.size ≤ b
theorem AppRO.bad {w w' : World} {k : Nat} {e : Ending} (he : e = .returned (.tuple #[.slice none 0 0, .int .i64 0, .int .i64 k])) (hb : Below w.heap.size w w') : AppRO w ([], 0, k) e w' :=
  ⟨none, 0, [], he, rfl, Tops.nil _ _, ⟨Nat.le_refl _, fun A h => (by cases h), fun _ => rfl⟩, hb, fun t h => (by cases h), fun b o h => (by cases h)⟩
set_option maxHeartbeats 2000000 in
theorem tappendO_c (a : Option Addr) (c : Nat) (l : List TB) (hl : l.length ≤ 1000000) (hI : TIn l) (tt pp : ByteArray) (q : Int) (ae : Option Addr) (le : List FB) (ce : Nat) (ht : tt.size ≤ 1000000000) (hp : pp.size ≤ 1000000000) (h0 : 0 ≤ q) (h4 : q ≤ 18446744073709551615) (hlE : le.length ≤ 1000000000) (hO : FOk le) (w : World) (hM : MaxW w) (hF : Tops w a l) (hS : Sl a c l.length) (hE : Flds w ae le) :
    Calls Try.prog 31 #[.slice a l.length c, .agg #[.string tt, .string pp, .int .u64 q, .slice ae le.length ce]] w fun e w' => AppRO w (appP (l.map TB.tp) (evMay tt pp q le) tt ⟨(evE tt pp q le).lay.toArray⟩) e w' := by
  have HC := Lib.hid (fun (W : World) (hM : MaxW W) (hF : Tops W a l) => tcheck_c a c l (by omega) hI W hM hF)
  have HMAY := Lib.hid (fun (W : World) (hM : MaxW W) (hE : Flds W ae le) => evmay_c tt pp q ae ce le hlE ht hp hO.sizes W hM hE h0 h4)
  have HCL := Lib.hid (fun W hF => tclone_c a c l (by omega) (fun t ht => (hI t ht).2.2.1) W hF hS)
  have HM := Lib.hid hM
  have HF := Lib.hid hF
  have HE := Lib.hid hE
  obtain ⟨p, hp2⟩ : ∃ p, appP (l.map TB.tp) (evMay tt pp q le) tt ⟨(evE tt pp q le).lay.toArray⟩ = p := ⟨_, rfl⟩
  rw [hp2]
  have HP := Lib.hid hp2
  have HBX := Lib.hid (balloc (.cells #[.string tt, .string pp, .int .u64 q, .slice ae le.length ce] 25) (.refl w.heap.size w))
  clear hM hF hE hp2
  cases hm : topsMay (l.map TB.tp) with
  | false =>
    obtain rfl : p = ([], 0, 1) := HP.out.symm.trans (by unfold appP; rw [hm, if_neg (by simp)])
    have HC2 := Lib.hid (fun W hM hF => hm ▸ HC.out W hM hF)
    clear hm HC HP
    go_enter Try.func31, Try.ntmps31
    go_wp2_with fail
    refine (HC2.out _ (HM.out.grow HBX.out) (HF.out.grow HBX.out)).mono ?_
    rintro e w1 ⟨rfl, hb1⟩
    have HB1 := Lib.hid (bstep hb1 HBX.out)
    clear hb1
    go_wp2_with fail
    go_ret3
    exact AppRO.bad rfl HB1.out
  | true =>
    have HC2 := Lib.hid (fun W hM hF => hm ▸ HC.out W hM hF)
    have hE0 : errV true = 0 := rfl
    cases hmy : evMay tt pp q le with
    | false =>
      obtain rfl : p = ([], 0, 1) := HP.out.symm.trans (by unfold appP; rw [hmy, if_neg (by simp)])
      rw [hmy] at HMAY
      clear hm HC HP hmy
      go_enter Try.func31, Try.ntmps31
      go_wp2_with fail
      refine (HC2.out _ (HM.out.grow HBX.out) (HF.out.grow HBX.out)).mono ?_
      rintro e w1 ⟨rfl, hb1⟩
      have HB1 := Lib.hid (bstep hb1 HBX.out)
      have HX1 := Lib.hid ((EAt.of (new_box w #[.string tt, .string pp, .int .u64 q, .slice ae le.length ce] 25)).grow (by simp) hb1)
      have hz1 : w.heap.size < w1.heap.size := (by have := hb1.size; simp at this; omega)
      clear hb1
      obtain ⟨x0, x1, x2, x3, x4, x5, x6, x7⟩ := HX1.out
      go_wp2_with fail
      refine (HMAY.out w1 (HM.out.grow HB1.out) (HE.out.grow HB1.out)).mono ?_
      rintro e w2 ⟨rfl, hb2⟩
      have HB2 := Lib.hid (bstep hb2 HB1.out)
      clear hb2
      go_wp2_with fail
      go_ret3
      exact AppRO.bad rfl HB2.out
    | true =>
      have hev : (evE tt pp q le).may = true := (evMay_eq tt pp q le h0).symm.trans hmy
      rw [hmy] at HMAY
      have HLAY := Lib.hid (fun (W : World) (hM : MaxW W) (hE : Flds W ae le) => elay_yes tt pp q ae ce le hlE ht hp hO W hM hE h0 h4 hev)
      have HFN := Lib.hid (fun (W : World) (hF : Tops W a l) => tfind_c tt a c l (by omega) W hF)
      generalize (⟨(evE tt pp q le).lay.toArray⟩ : ByteArray) = S at HLAY HP
      have HP2 : Hid (appP (l.map TB.tp) true tt S = p) := Lib.hid (by rw [← hmy]; exact HP.out)
      have HTM := Lib.hid hm
      clear hm HC HP hmy hev hE0
      go_enter Try.func31, Try.ntmps31
      go_wp2_with fail
      refine (HC2.out _ (HM.out.grow HBX.out) (HF.out.grow HBX.out)).mono ?_
      rintro e w1 ⟨rfl, hb1⟩
      rw [show errV true = 0 from rfl]
      have HB1 := Lib.hid (bstep hb1 HBX.out)
      have HX1 := Lib.hid ((EAt.of (new_box w #[.string tt, .string pp, .int .u64 q, .slice ae le.length ce] 25)).grow (by simp) hb1)
      have hz1 : w.heap.size < w1.heap.size := (by have := hb1.size; simp at this; omega)
      clear hb1
      obtain ⟨x0, x1, x2, x3, x4, x5, x6, x7⟩ := HX1.out
      go_wp2_with fail
      refine (HMAY.out w1 (HM.out.grow HB1.out) (HE.out.grow HB1.out)).mono ?_
      rintro e w2 ⟨rfl, hb2⟩
      have HB2 := Lib.hid (bstep hb2 HB1.out)
      have HX2 := Lib.hid (HX1.out.grow hz1 hb2)
      have hz2 : w.heap.size < w2.heap.size := Nat.lt_of_lt_of_le hz1 hb2.size
      clear hb2 HX1 x0 x1 x2 x3 x4 x5 x6 x7
      obtain ⟨x0, x1, x2, x3, x4, x5, x6, x7⟩ := HX2.out
      go_wp2_with fail
      refine (HLAY.out w2 (HM.out.grow HB2.out) (HE.out.grow HB2.out)).mono ?_
      rintro e w3 ⟨rfl, hb3⟩
      have HB3 := Lib.hid (bstep hb3 HB2.out)
      have HX3 := Lib.hid (HX2.out.grow hz2 hb3)
      have hz3 : w.heap.size < w3.heap.size := Nat.lt_of_lt_of_le hz2 hb3.size
      clear hb3 HX2 x0 x1 x2 x3 x4 x5 x6 x7
      obtain ⟨x0, x1, x2, x3, x4, x5, x6, x7⟩ := HX3.out
      go_wp2_with fail
      have HFN3 := Lib.hid (HFN.out w3 (HF.out.grow HB3.out))
      cases hf : findT (l.map TB.tp) tt with
      | none =>
        rw [hf] at HFN3
        by_cases h20 : 20 ≤ l.length
        · obtain rfl : p = ([], 0, 6) := HP2.out.symm.trans (by unfold appP; rw [if_pos ⟨HTM.out, rfl⟩, hf]; simp only [List.length_map]; rw [if_pos h20])
          clear hf HFN
          refine HFN3.out.mono ?_
          rintro e w4 ⟨rfl, hb4⟩
          have HB4 := Lib.hid (bstep hb4 HB3.out)
          clear hb4
          unfold findR
          have y1 : (20 : Int) ≤ l.length := by omega
          go_wp2_with fail
          go_ret3
          exact AppRO.bad rfl HB4.out
        · have HP3 : Hid (((l.map TB.tp).take (aheadT (l.map TB.tp) tt) ++ ⟨tt, 0, [S]⟩ :: (l.map TB.tp).drop (aheadT (l.map TB.tp) tt), (0 : Int), 0) = p) := Lib.hid (by rw [← HP2.out]; unfold appP; rw [if_pos ⟨HTM.out, rfl⟩, hf]; simp only [List.length_map]; rw [if_neg h20])
          have HNO := Lib.hid (findT_none hf)
          clear hf HFN HP2
          refine HFN3.out.mono ?_
          rintro e w4 ⟨rfl, hb4⟩
          have HB4 := Lib.hid (bstep hb4 HB3.out)
          have HX4 := Lib.hid (HX3.out.grow hz3 hb4)
          have hz4 : w.heap.size < w4.heap.size := Nat.lt_of_lt_of_le hz3 hb4.size
          clear hb4 HX3 HFN3 x0 x1 x2 x3 x4 x5 x6 x7
          obtain ⟨x0, x1, x2, x3, x4, x5, x6, x7⟩ := HX4.out
          unfold findR
          have y1 : ¬ (20 : Int) ≤ l.length := by omega
          go_wp2_with fail
          go_loopw [9] (fun i wr => PlRel w4 l tt i wr) (fun i _ => l.length - (intOf i).toNat)
          case atStart => exact ⟨0, by omega, rfl, fun _ _ h => by omega, .refl _ _⟩
          case round =>
            obtain ⟨k, hk, rfl, HA, HW⟩ := hrel
            obtain ⟨wo, rfl⟩ : ∃ wo, wo = wr := ⟨_, rfl⟩
            have HX5 := Lib.hid (HX4.out.grow hz4 HW.out)
            have hz5 : w.heap.size < wo.heap.size := Nat.lt_of_lt_of_le hz4 HW.out.size
            have HBo := Lib.hid (bstep HW.out HB4.out)
            have HFo := Lib.hid (HF.out.grow HBo.out)
            have HWo := HW
            clear HX4 x0 x1 x2 x3 x4 x5 x6 x7 HW
            obtain ⟨x0, x1, x2, x3, x4, x5, x6, x7⟩ := HX5.out
            by_cases hlt : k < l.length
            · obtain ⟨b, o, ha, hb⟩ := HFo.out.head hlt
              obtain rfl : a = some ⟨b, o, none⟩ := ha
              obtain ⟨_, ⟨f0, f1, f2⟩, _⟩ := HFo.out.at hlt
              have hlt2 : k < (l.map TB.tp).length := by simpa using hlt
              have hge : Op.bytesLess l[k].name.toList tt.toList = lessB l[k].name tt := by unfold lessB; rw [str_toList, str_toList]
              have HGE := Lib.hid hge
              clear hge
              cases hls : lessB l[k].name tt with
              | true =>
                have hge : Op.bytesLess l[k].name.toList tt.toList = true := HGE.out.trans hls
                have HA2 : Hid (∀ (j : Nat) (h : j < (l.map TB.tp).length), j < k + 1 → lessB (l.map TB.tp)[j].name tt = true) := Lib.hid (fun j h hj => by
                  by_cases e : j = k
                  · subst e; rw [List.getElem_map]; exact hls
                  · exact HA.out j h (by omega))
                clear hls HGE HA
                go_upto_region 11 with fail
                refine Tryst2.wp_region_grows [.is (.int .i64 (k : Int)), .is (.slice (some ⟨b, o, none⟩) l.length c), .is (.int .i64 (l.length : Int)), .is (.bool true), .is (.bool true), .is (.slice (some ⟨b, o, none⟩) l.length c), .is (.int .i64 (k : Int)), .is (.pointer (some ⟨b, o + k * 3, none⟩)), .is (.pointer (some ⟨b, o + k * 3, none⟩)), .is (.string l[k].name), .is (.pointer (some ⟨w.heap.size, 0, none⟩)), .is (.string tt), .is (.bool true), .is (.bool true)] (by kernel_rfl) (by kernel_rfl) ?obl ?fin
                case obl =>
                  simp only [Tryst2.AllObl, Tryst2.dstL, Tryst2.Obl, Tryst2.depsOf, Tryst2.binds_data, Tryst2.binds_chain, Tryst2.binds_phase, Tryst2.binds_guard, Tryst2.binds_text, Tryst2.binds_gc, Bool.false_eq_true, if_false, List.filterMap_cons_some, List.filterMap_cons_none, Tryst2.depsR, Tryst2.holdR, Tryst2.tmpsOf, Op.operands, Call.operands, Tryst2.Rsp.pred, Tryst2.wantedV_none, Tryst2.wantedV_some, if_true, List.map_cons, List.map_nil, List.length_map, List.take_succ_cons, List.take_zero, List.length_cons, List.length_nil, List.getElem?_cons_zero, List.getElem?_cons_succ, Option.bind_some, id, List.getD_cons_zero, List.getD_cons_succ, Tryst2.isDst, List.filterMap_cons, List.filterMap_nil, List.toList_toArray]
                  repeat' apply And.intro
                  any_goals trivial
                  all_goals (intro tv w' hg hold hd; (try simp at hold); obtain ⟨hcg, hfg⟩ := Tryst2.Grow.cells hg; have hsg := Tryst2.Grow.le hg)
                  all_goals first | (go_simp; done) | (go_simp; rw [if_neg (by omega)]; exact ⟨.refl _, rfl⟩) | (obtain ⟨⟨g, hvg, hgg, hcell⟩, _⟩ := hd; have hcell0 := hcell 0 (by decide); simp at hcell0; go_simp; done) 
                case fin =>
                  intro tv w' hg hR
                  simp only [Tryst2.allR, Tryst2.dstL, Tryst2.Rsp.pred, List.map_cons, List.map_nil, List.take_succ_cons, List.take_zero, List.length_cons, List.length_nil, List.tail_cons, List.toList_toArray] at hR
                  obtain ⟨hcg, hfg⟩ := Tryst2.Grow.cells hg
                  have hsg := Tryst2.Grow.le hg
                  simp only [Tryst2.putAll, Tryst2.dstL, List.map_cons, List.map_nil, List.take_succ_cons, List.take_zero, List.length_cons, List.length_nil, List.toList_toArray, List.drop_succ_cons, List.drop_zero, Act.put, List.setIfInBounds_toArray, List.set_cons_zero, List.set_cons_succ, hR]
                  have HB7 := Lib.hid (Tryst2.Grow.below hg (.refl wo.heap.size wo))
                  have HB8 := Lib.hid (bstep HB7.out HWo.out)
                  clear hg hR hcg hfg hsg
                  go_wp2_with fail
                  go_roundw
                  case rel => exact ⟨k + 1, by omega, by go_num, HA2, HB8⟩
                  case measure => simp [intOf] <;> omega
              | false =>
                have hge : Op.bytesLess l[k].name.toList tt.toList = false := HGE.out.trans hls
                have HPL : Hid (aheadT (l.map TB.tp) tt = k) := Lib.hid (aheadT_stop hlt2 HA.out (by rw [List.getElem_map]; exact hls))
                clear hls HGE HA
                go_upto_region 11 with fail
                refine Tryst2.wp_region_grows [.is (.int .i64 (k : Int)), .is (.slice (some ⟨b, o, none⟩) l.length c), .is (.int .i64 (l.length : Int)), .is (.bool true), .is (.bool true), .is (.slice (some ⟨b, o, none⟩) l.length c), .is (.int .i64 (k : Int)), .is (.pointer (some ⟨b, o + k * 3, none⟩)), .is (.pointer (some ⟨b, o + k * 3, none⟩)), .is (.string l[k].name), .is (.pointer (some ⟨w.heap.size, 0, none⟩)), .is (.string tt), .is (.bool false), .is (.bool false)] (by kernel_rfl) (by kernel_rfl) ?obl ?fin
                case obl =>
                  simp only [Tryst2.AllObl, Tryst2.dstL, Tryst2.Obl, Tryst2.depsOf, Tryst2.binds_data, Tryst2.binds_chain, Tryst2.binds_phase, Tryst2.binds_guard, Tryst2.binds_text, Tryst2.binds_gc, Bool.false_eq_true, if_false, List.filterMap_cons_some, List.filterMap_cons_none, Tryst2.depsR, Tryst2.holdR, Tryst2.tmpsOf, Op.operands, Call.operands, Tryst2.Rsp.pred, Tryst2.wantedV_none, Tryst2.wantedV_some, if_true, List.map_cons, List.map_nil, List.length_map, List.take_succ_cons, List.take_zero, List.length_cons, List.length_nil, List.getElem?_cons_zero, List.getElem?_cons_succ, Option.bind_some, id, List.getD_cons_zero, List.getD_cons_succ, Tryst2.isDst, List.filterMap_cons, List.filterMap_nil, List.toList_toArray]
                  repeat' apply And.intro
                  any_goals trivial
                  all_goals (intro tv w' hg hold hd; (try simp at hold); obtain ⟨hcg, hfg⟩ := Tryst2.Grow.cells hg; have hsg := Tryst2.Grow.le hg)
                  all_goals first | (go_simp; done) | (go_simp; rw [if_neg (by omega)]; exact ⟨.refl _, rfl⟩) | (obtain ⟨⟨g, hvg, hgg, hcell⟩, _⟩ := hd; have hcell0 := hcell 0 (by decide); simp at hcell0; go_simp; done) 
                case fin =>
                  intro tv w' hg hR
                  simp only [Tryst2.allR, Tryst2.dstL, Tryst2.Rsp.pred, List.map_cons, List.map_nil, List.take_succ_cons, List.take_zero, List.length_cons, List.length_nil, List.tail_cons, List.toList_toArray] at hR
                  obtain ⟨hcg, hfg⟩ := Tryst2.Grow.cells hg
                  have hsg := Tryst2.Grow.le hg
                  simp only [Tryst2.putAll, Tryst2.dstL, List.map_cons, List.map_nil, List.take_succ_cons, List.take_zero, List.length_cons, List.length_nil, List.toList_toArray, List.drop_succ_cons, List.drop_zero, Act.put, List.setIfInBounds_toArray, List.set_cons_zero, List.set_cons_succ, hR]
                  have hbw := Tryst2.Grow.below hg (.refl wo.heap.size wo)
                  have HB6 := Lib.hid (bstep hbw HBo.out)
                  have HX6 := Lib.hid (HX5.out.grow hz5 hbw)
                  have HF6 := Lib.hid (HF.out.grow HB6.out)
                  have hz6 : w.heap.size < w'.heap.size := Nat.lt_of_lt_of_le hz5 hbw.size
                  obtain ⟨w6, rfl⟩ : ∃ v, v = w' := ⟨_, rfl⟩
                  clear hbw hg hR hcg hfg hsg HX5 x0 x1 x2 x3 x4 x5 x6 x7 HBo HWo HF
                  obtain ⟨x0, x1, x2, x3, x4, x5, x6, x7⟩ := HX6.out
                  go_upto_region 14 with fail
                  refine wp_genC (fun v => Hid (Tops v (some ⟨b, o, none⟩) l) ∧ Hid (TBox v (w6.heap.size + 1) tt 0 (.slice (some ⟨w6.heap.size, 0, none⟩) 1 1)) ∧ Hid (Strs v (some ⟨w6.heap.size, 0, none⟩) [S]) ∧ Hid (Below w.heap.size w v)) ⟨HF6.out.grow (balloc _ (balloc _ (.refl _ _))), ?_, ?_, balloc _ (balloc _ HB6.out)⟩ ?_
                  · show TBox _ _ _ _ _
                    have h := TBox.new (w6.alloc (.cells #[.string S] 9)) tt 0 (.slice (some ⟨w6.heap.size, 0, none⟩) 1 1) 74
                    rw [show (w6.alloc (.cells #[.string S] 9)).heap.size = w6.heap.size + 1 by simp] at h
                    exact h
                  · show Strs _ _ _
                    intro i hi
                    obtain rfl : i = 0 := by simpa using hi
                    exact ⟨w6.heap.size, 0, rfl, by (try simp); (try omega), by simp [go_sem]⟩
                  rintro X ⟨F1, F2, F3, F4⟩
                  have hGX : w6.heap.size < X.heap.size := by have := F2.out.hz; omega
                  obtain ⟨G, hG⟩ : ∃ G, w6.heap.size = G := ⟨_, rfl⟩
                  rw [hG] at F2 F3 hGX
                  simp only [hG]
                  have hwG : w.heap.size ≤ G := by omega
                  clear hG HX6 x0 x1 x2 x3 x4 x5 x6 x7 HB6 HF6 hz6
                  obtain ⟨x0, x1, x2, x3, x4, x5, x6⟩ := F2.out
                  refine Tryst2.wp_region_grows [.is (.slice (some ⟨b, o, none⟩) l.length c), .any (CloneP X.heap.size l), .is (.int .i64 (k : Int)), .is (.agg #[.string tt, .int .i64 0, .slice (some ⟨G, 0, none⟩) 1 1]), .any (OneP ⟨tt, 0, some ⟨G, 0, none⟩, [S], 1⟩)] (by kernel_rfl) (by kernel_rfl) ?obl ?fin
                  case obl =>
                    simp only [Tryst2.AllObl, Tryst2.dstL, Tryst2.Obl, Tryst2.depsOf, Tryst2.binds_data, Tryst2.binds_chain, Tryst2.binds_phase, Tryst2.binds_guard, Tryst2.binds_text, Tryst2.binds_gc, Bool.false_eq_true, if_false, List.filterMap_cons_some, List.filterMap_cons_none, Tryst2.depsR, Tryst2.holdR, Tryst2.tmpsOf, Op.operands, Call.operands, Tryst2.Rsp.pred, Tryst2.wantedV_none, Tryst2.wantedV_some, if_true, List.map_cons, List.map_nil, List.length_map, List.take_succ_cons, List.take_zero, List.length_cons, List.length_nil, List.getElem?_cons_zero, List.getElem?_cons_succ, Option.bind_some, id, List.getD_cons_zero, List.getD_cons_succ, Tryst2.isDst, List.filterMap_cons, List.filterMap_nil, List.toList_toArray]
                    repeat' apply And.intro
                    any_goals trivial
                    all_goals (intro tv w' hg hold hd; (try simp at hold); obtain ⟨hcg, hfg⟩ := Tryst2.Grow.cells hg; have hsg := Tryst2.Grow.le hg)
                    all_goals first | (go_simp; done) | (go_simp; rw [if_neg (by omega)]; exact ⟨.refl _, rfl⟩) | (obtain ⟨⟨g, hvg, hgg, hcell⟩, _⟩ := hd; have hcell0 := hcell 0 (by decide); simp at hcell0; go_simp; done) | (go_simp; go_at_call 62; (with_reducible refine (HCL.out _ ?_).mono ?_); (exact F1.out.grow (Tryst2.Grow.below hg (.refl X.heap.size X))); rintro e w5 hcl; obtain ⟨v5, rfl, hv5⟩ := CloneP.of (base := X.heap.size) (by omega) hcl; exact hv5) | (go_simp; exact (OneP.of _ ⟨tt, 0, some ⟨G, 0, none⟩, [S], 1⟩).2)
                  case fin =>
                    intro tv w' hg hR
                    simp only [Tryst2.allR, Tryst2.dstL, Tryst2.Rsp.pred, List.map_cons, List.map_nil, List.take_succ_cons, List.take_zero, List.length_cons, List.length_nil, List.tail_cons, List.toList_toArray] at hR
                    obtain ⟨hcg, hfg⟩ := Tryst2.Grow.cells hg
                    have hsg := Tryst2.Grow.le hg
                    simp only [Tryst2.putAll, Tryst2.dstL, List.map_cons, List.map_nil, List.take_succ_cons, List.take_zero, List.length_cons, List.length_nil, List.toList_toArray, List.drop_succ_cons, List.drop_zero, Act.put, List.setIfInBounds_toArray, List.set_cons_zero, List.set_cons_succ, hR]
                    obtain ⟨a5, c5, l5, e5, h51, h52, h53, h54⟩ := CloneP.at hR.2.1
                    obtain ⟨gv, e6, h6⟩ := OneP.at hR.2.2.2.2.1
                    simp only [e5, e6]
                    have hbw := Tryst2.Grow.below hg (.refl X.heap.size X)
                    have hne5 : k < l5.length → ∀ A, a5 = some A → gv ≠ A.block := by
                      intro hk5 A hA hgA
                      obtain ⟨g, c', hv, _, _, _, _, hat, _⟩ := TOwn.block h53 (by omega)
                      simp only [Value.slice.injEq, true_and] at hv
                      rw [hA] at hv
                      have hA2 : A = ⟨g, 0, none⟩ := by simpa using hv.1
                      have h7 := (hat 0 (by omega)).c0
                      rw [hA2] at hgA
                      have h8 : w'.cell? ⟨g, 0 * 3, none⟩ = some (.string tt) := by
                        rw [← show gv = g from hgA]
                        simp [World.cell?, h6]
                      rw [h8] at h7
                      simp only [Option.some.injEq, Value.string.injEq] at h7
                      refine HNO.out (l5[0]'(by omega)).tp ?_ h7.symm
                      rw [← h52]
                      exact List.mem_map.2 ⟨_, List.getElem_mem _, rfl⟩
                    have HT6 := Lib.hid (TAt.mk (w := w') (b := gv) (o := 0) (t := ⟨tt, 0, some ⟨G, 0, none⟩, [S], 1⟩) (by simp [World.cell?, h6]) (by simp [World.cell?, h6]) (by simp [World.cell?, h6]))
                    have HS6 := Lib.hid (F3.out.grow hbw)
                    have HB6 := Lib.hid (bstep hbw F4.out)
                    have hzX : X.heap.size ≤ w'.heap.size := hbw.size
                    have H51 := Lib.hid h51
                    have H52 := Lib.hid h52
                    have H53 := Lib.hid h53
                    have H54 := Lib.hid h54
                    have HNE := Lib.hid hne5
                    have H6 := Lib.hid h6
                    clear hR hcg hfg hsg e5 e6 hbw h51 h52 h53 h54 h6 hne5 hg
                    go_wp2_with fail
                    refine (tins_c X.heap.size a5 c5 l5 k (by rw [H51.out]; omega) (by rw [H51.out]; omega) (ROwn.cap H53.out) ⟨tt, 0, some ⟨G, 0, none⟩, [S], 1⟩ gv w' H53.out hzX HNE.out _ H6.out HT6.out).mono ?_
                    rintro e w7 ⟨a7, c7, rfl, hO7, hb7, hk7⟩
                    generalize hL7 : (l5.take k ++ (⟨tt, 0, some ⟨G, 0, none⟩, [S], 1⟩ : TB) :: l5.drop k) = L7 at hO7 ⊢
                    have HL7 := Lib.hid hL7
                    clear hL7
                    have HO7 := Lib.hid hO7
                    have HB7 := Lib.hid hb7
                    have HK7 := Lib.hid hk7
                    clear hO7 hb7 hk7
                    go_wp2_with fail
                    go_ret3
                    have hS7 : Strs w7 (some ⟨G, 0, none⟩) [S] := fun i hi => by
                      obtain ⟨b0, o0, q1, q2, q3⟩ := HS6.out i hi
                      cases q1
                      exact ⟨G, 0, rfl, by have := HB7.out.size; omega, by rw [HB7.out.cell (p := ⟨G, 0 + i, none⟩) hGX]; exact q3⟩
                    have hlg := ins_logs (k := k) (t := ⟨tt, 0, some ⟨G, 0, none⟩, [S], 1⟩) H53.out H54.out HK7.out ⟨hS7, ⟨Nat.le_refl _, fun A h => (by cases h; rfl), fun h => (by cases h)⟩⟩
                    rw [HL7.out] at hlg
                    obtain ⟨hT7, hS8, _⟩ := HO7.out.tops hlg
                    have hmp : L7.map TB.tp = p.1 := by
                      rw [← HL7.out, ← HP3.out, HPL.out, List.map_append, List.map_cons, List.map_take, List.map_drop, H52.out]
                      rfl
                    have hln : L7.length = p.1.length := by rw [← hmp, List.length_map]
                    have hwX : w.heap.size ≤ X.heap.size := F4.out.size
                    have hnew : NewL w.heap.size L7 := by
                      rw [← HL7.out]
                      exact ((newL_of H54.out).ins k (fun b o h => by cases h; exact Nat.le_refl _) hwX hwG)
                    refine ⟨a7, c7, L7, ?_, hmp, hT7, ?_, ?_, hnew, fun b o h => by cases h; have := (ROwn.lt0 HO7.out).1; omega⟩
                    · rw [← hln, ← HP3.out]
                      rfl
                    · rw [← hln]; exact hS8
                    · exact (HB6.out).trans (HB7.out.mono (by have := F4.out.size; omega))
            · have HPL : Hid (aheadT (l.map TB.tp) tt = k) := Lib.hid (by
                have e : k = (l.map TB.tp).length := by rw [List.length_map]; omega
                rw [e]; exact aheadT_all (fun j h => HA.out j h (by omega)))
              go_upto_region 11 with fail
              refine Tryst2.wp_region_grows [.is (.int .i64 (k : Int)), .is (.slice a l.length c), .is (.int .i64 (l.length : Int)), .is (.bool false), .is (.bool false), .is undef, .is undef, .is undef, .is undef, .is undef, .is undef, .is undef, .is undef, .is (.bool false)] (by kernel_rfl) (by kernel_rfl) ?obl ?fin
              case obl =>
                simp only [Tryst2.AllObl, Tryst2.dstL, Tryst2.Obl, Tryst2.depsOf, Tryst2.binds_data, Tryst2.binds_chain, Tryst2.binds_phase, Tryst2.binds_guard, Tryst2.binds_text, Tryst2.binds_gc, Bool.false_eq_true, if_false, List.filterMap_cons_some, List.filterMap_cons_none, Tryst2.depsR, Tryst2.holdR, Tryst2.tmpsOf, Op.operands, Call.operands, Tryst2.Rsp.pred, Tryst2.wantedV_none, Tryst2.wantedV_some, if_true, List.map_cons, List.map_nil, List.length_map, List.take_succ_cons, List.take_zero, List.length_cons, List.length_nil, List.getElem?_cons_zero, List.getElem?_cons_succ, Option.bind_some, id, List.getD_cons_zero, List.getD_cons_succ, Tryst2.isDst, List.filterMap_cons, List.filterMap_nil, List.toList_toArray]
                repeat' apply And.intro
                any_goals trivial
                all_goals (intro tv w' hg hold hd; (try simp at hold); obtain ⟨hcg, hfg⟩ := Tryst2.Grow.cells hg; have hsg := Tryst2.Grow.le hg)
                all_goals first | (go_simp; done) | (go_simp; rw [if_neg (by omega)]; exact ⟨.refl _, rfl⟩) | (obtain ⟨⟨g, hvg, hgg, hcell⟩, _⟩ := hd; have hcell0 := hcell 0 (by decide); simp at hcell0; go_simp; done) 
              case fin =>
                intro tv w' hg hR
                simp only [Tryst2.allR, Tryst2.dstL, Tryst2.Rsp.pred, List.map_cons, List.map_nil, List.take_succ_cons, List.take_zero, List.length_cons, List.length_nil, List.tail_cons, List.toList_toArray] at hR
                obtain ⟨hcg, hfg⟩ := Tryst2.Grow.cells hg
                have hsg := Tryst2.Grow.le hg
                simp only [Tryst2.putAll, Tryst2.dstL, List.map_cons, List.map_nil, List.take_succ_cons, List.take_zero, List.length_cons, List.length_nil, List.toList_toArray, List.drop_succ_cons, List.drop_zero, Act.put, List.setIfInBounds_toArray, List.set_cons_zero, List.set_cons_succ, hR]
                have hbw := Tryst2.Grow.below hg (.refl wo.heap.size wo)
                have HB6 := Lib.hid (bstep hbw HBo.out)
                have HX6 := Lib.hid (HX5.out.grow hz5 hbw)
                have HF6 := Lib.hid (HF.out.grow HB6.out)
                have hz6 : w.heap.size < w'.heap.size := Nat.lt_of_lt_of_le hz5 hbw.size
                obtain ⟨w6, rfl⟩ : ∃ v, v = w' := ⟨_, rfl⟩
                clear hbw hg hR hcg hfg hsg HX5 x0 x1 x2 x3 x4 x5 x6 x7 HBo HWo HF
                obtain ⟨x0, x1, x2, x3, x4, x5, x6, x7⟩ := HX6.out
                go_upto_region 14 with fail
                refine wp_genC (fun v => Hid (Tops v (a) l) ∧ Hid (TBox v (w6.heap.size + 1) tt 0 (.slice (some ⟨w6.heap.size, 0, none⟩) 1 1)) ∧ Hid (Strs v (some ⟨w6.heap.size, 0, none⟩) [S]) ∧ Hid (Below w.heap.size w v)) ⟨HF6.out.grow (balloc _ (balloc _ (.refl _ _))), ?_, ?_, balloc _ (balloc _ HB6.out)⟩ ?_
                · show TBox _ _ _ _ _
                  have h := TBox.new (w6.alloc (.cells #[.string S] 9)) tt 0 (.slice (some ⟨w6.heap.size, 0, none⟩) 1 1) 74
                  rw [show (w6.alloc (.cells #[.string S] 9)).heap.size = w6.heap.size + 1 by simp] at h
                  exact h
                · show Strs _ _ _
                  intro i hi
                  obtain rfl : i = 0 := by simpa using hi
                  exact ⟨w6.heap.size, 0, rfl, by (try simp); (try omega), by simp [go_sem]⟩
                rintro X ⟨F1, F2, F3, F4⟩
                have hGX : w6.heap.size < X.heap.size := by have := F2.out.hz; omega
                obtain ⟨G, hG⟩ : ∃ G, w6.heap.size = G := ⟨_, rfl⟩
                rw [hG] at F2 F3 hGX
                simp only [hG]
                have hwG : w.heap.size ≤ G := by omega
                clear hG HX6 x0 x1 x2 x3 x4 x5 x6 x7 HB6 HF6 hz6
                obtain ⟨x0, x1, x2, x3, x4, x5, x6⟩ := F2.out
                refine Tryst2.wp_region_grows [.is (.slice (a) l.length c), .any (CloneP X.heap.size l), .is (.int .i64 (k : Int)), .is (.agg #[.string tt, .int .i64 0, .slice (some ⟨G, 0, none⟩) 1 1]), .any (OneP ⟨tt, 0, some ⟨G, 0, none⟩, [S], 1⟩)] (by kernel_rfl) (by kernel_rfl) ?obl ?fin
                case obl =>
                  simp only [Tryst2.AllObl, Tryst2.dstL, Tryst2.Obl, Tryst2.depsOf, Tryst2.binds_data, Tryst2.binds_chain, Tryst2.binds_phase, Tryst2.binds_guard, Tryst2.binds_text, Tryst2.binds_gc, Bool.false_eq_true, if_false, List.filterMap_cons_some, List.filterMap_cons_none, Tryst2.depsR, Tryst2.holdR, Tryst2.tmpsOf, Op.operands, Call.operands, Tryst2.Rsp.pred, Tryst2.wantedV_none, Tryst2.wantedV_some, if_true, List.map_cons, List.map_nil, List.length_map, List.take_succ_cons, List.take_zero, List.length_cons, List.length_nil, List.getElem?_cons_zero, List.getElem?_cons_succ, Option.bind_some, id, List.getD_cons_zero, List.getD_cons_succ, Tryst2.isDst, List.filterMap_cons, List.filterMap_nil, List.toList_toArray]
                  repeat' apply And.intro
                  any_goals trivial
                  all_goals (intro tv w' hg hold hd; (try simp at hold); obtain ⟨hcg, hfg⟩ := Tryst2.Grow.cells hg; have hsg := Tryst2.Grow.le hg)
                  all_goals first | (go_simp; done) | (go_simp; rw [if_neg (by omega)]; exact ⟨.refl _, rfl⟩) | (obtain ⟨⟨g, hvg, hgg, hcell⟩, _⟩ := hd; have hcell0 := hcell 0 (by decide); simp at hcell0; go_simp; done) | (go_simp; go_at_call 62; (with_reducible refine (HCL.out _ ?_).mono ?_); (exact F1.out.grow (Tryst2.Grow.below hg (.refl X.heap.size X))); rintro e w5 hcl; obtain ⟨v5, rfl, hv5⟩ := CloneP.of (base := X.heap.size) (by omega) hcl; exact hv5) | (go_simp; exact (OneP.of _ ⟨tt, 0, some ⟨G, 0, none⟩, [S], 1⟩).2)
                case fin =>
                  intro tv w' hg hR
                  simp only [Tryst2.allR, Tryst2.dstL, Tryst2.Rsp.pred, List.map_cons, List.map_nil, List.take_succ_cons, List.take_zero, List.length_cons, List.length_nil, List.tail_cons, List.toList_toArray] at hR
                  obtain ⟨hcg, hfg⟩ := Tryst2.Grow.cells hg
                  have hsg := Tryst2.Grow.le hg
                  simp only [Tryst2.putAll, Tryst2.dstL, List.map_cons, List.map_nil, List.take_succ_cons, List.take_zero, List.length_cons, List.length_nil, List.toList_toArray, List.drop_succ_cons, List.drop_zero, Act.put, List.setIfInBounds_toArray, List.set_cons_zero, List.set_cons_succ, hR]
                  obtain ⟨a5, c5, l5, e5, h51, h52, h53, h54⟩ := CloneP.at hR.2.1
                  obtain ⟨gv, e6, h6⟩ := OneP.at hR.2.2.2.2.1
                  simp only [e5, e6]
                  have hbw := Tryst2.Grow.below hg (.refl X.heap.size X)
                  have hne5 : k < l5.length → ∀ A, a5 = some A → gv ≠ A.block := by
                    intro hk5 A hA hgA
                    obtain ⟨g, c', hv, _, _, _, _, hat, _⟩ := TOwn.block h53 (by omega)
                    simp only [Value.slice.injEq, true_and] at hv
                    rw [hA] at hv
                    have hA2 : A = ⟨g, 0, none⟩ := by simpa using hv.1
                    have h7 := (hat 0 (by omega)).c0
                    rw [hA2] at hgA
                    have h8 : w'.cell? ⟨g, 0 * 3, none⟩ = some (.string tt) := by
                      rw [← show gv = g from hgA]
                      simp [World.cell?, h6]
                    rw [h8] at h7
                    simp only [Option.some.injEq, Value.string.injEq] at h7
                    refine HNO.out (l5[0]'(by omega)).tp ?_ h7.symm
                    rw [← h52]
                    exact List.mem_map.2 ⟨_, List.getElem_mem _, rfl⟩
                  have HT6 := Lib.hid (TAt.mk (w := w') (b := gv) (o := 0) (t := ⟨tt, 0, some ⟨G, 0, none⟩, [S], 1⟩) (by simp [World.cell?, h6]) (by simp [World.cell?, h6]) (by simp [World.cell?, h6]))
                  have HS6 := Lib.hid (F3.out.grow hbw)
                  have HB6 := Lib.hid (bstep hbw F4.out)
                  have hzX : X.heap.size ≤ w'.heap.size := hbw.size
                  have H51 := Lib.hid h51
                  have H52 := Lib.hid h52
                  have H53 := Lib.hid h53
                  have H54 := Lib.hid h54
                  have HNE := Lib.hid hne5
                  have H6 := Lib.hid h6
                  clear hR hcg hfg hsg e5 e6 hbw h51 h52 h53 h54 h6 hne5 hg
                  go_wp2_with fail
                  refine (tins_c X.heap.size a5 c5 l5 k (by rw [H51.out]; omega) (by rw [H51.out]; omega) (ROwn.cap H53.out) ⟨tt, 0, some ⟨G, 0, none⟩, [S], 1⟩ gv w' H53.out hzX HNE.out _ H6.out HT6.out).mono ?_
                  rintro e w7 ⟨a7, c7, rfl, hO7, hb7, hk7⟩
                  generalize hL7 : (l5.take k ++ (⟨tt, 0, some ⟨G, 0, none⟩, [S], 1⟩ : TB) :: l5.drop k) = L7 at hO7 ⊢
                  have HL7 := Lib.hid hL7
                  clear hL7
                  have HO7 := Lib.hid hO7
                  have HB7 := Lib.hid hb7
                  have HK7 := Lib.hid hk7
                  clear hO7 hb7 hk7
                  go_wp2_with fail
                  go_ret3
                  have hS7 : Strs w7 (some ⟨G, 0, none⟩) [S] := fun i hi => by
                    obtain ⟨b0, o0, q1, q2, q3⟩ := HS6.out i hi
                    cases q1
                    exact ⟨G, 0, rfl, by have := HB7.out.size; omega, by rw [HB7.out.cell (p := ⟨G, 0 + i, none⟩) hGX]; exact q3⟩
                  have hlg := ins_logs (k := k) (t := ⟨tt, 0, some ⟨G, 0, none⟩, [S], 1⟩) H53.out H54.out HK7.out ⟨hS7, ⟨Nat.le_refl _, fun A h => (by cases h; rfl), fun h => (by cases h)⟩⟩
                  rw [HL7.out] at hlg
                  obtain ⟨hT7, hS8, _⟩ := HO7.out.tops hlg
                  have hmp : L7.map TB.tp = p.1 := by
                    rw [← HL7.out, ← HP3.out, HPL.out, List.map_append, List.map_cons, List.map_take, List.map_drop, H52.out]
                    rfl
                  have hln : L7.length = p.1.length := by rw [← hmp, List.length_map]
                  have hwX : w.heap.size ≤ X.heap.size := F4.out.size
                  have hnew : NewL w.heap.size L7 := by
                    rw [← HL7.out]
                    exact ((newL_of H54.out).ins k (fun b o h => by cases h; exact Nat.le_refl _) hwX hwG)
                  refine ⟨a7, c7, L7, ?_, hmp, hT7, ?_, ?_, hnew, fun b o h => by cases h; have := (ROwn.lt0 HO7.out).1; omega⟩
                  · rw [← hln, ← HP3.out]
                    rfl
                  · rw [← hln]; exact hS8
                  · exact (HB6.out).trans (HB7.out.mono (by have := F4.out.size; omega))
      | some i =>
        rw [hf] at HFN3
        obtain ⟨hi, hn, htm⟩ := find_at HTM.out hf
        obtain ⟨q1, q2, q3, _⟩ := tmay_parts htm
        have HP3 : Hid ((if 100 ≤ l[i].log.length ∨ 1099511627775 ≤ l[i].first + (l[i].log.length : Int) then (([] : List Tp), (0 : Int), 6) else ((l.map TB.tp).set i ⟨l[i].name, l[i].first, l[i].log ++ [S]⟩, l[i].first + (l[i].log.length : Int), 0)) = p) := Lib.hid (by
          refine Eq.trans (Eq.symm ?_) HP2.out
          unfold appP
          rw [if_pos ⟨HTM.out, rfl⟩, hf]
          show (match (l.map TB.tp)[i]? with | none => (([] : List Tp), (0 : Int), 6) | some t => _) = _
          rw [List.getElem?_map, List.getElem?_eq_getElem hi]
          rfl)
        clear hf HFN HP2 hn htm
        refine HFN3.out.mono ?_
        rintro e w4 ⟨rfl, hb4⟩
        have HB4 := Lib.hid (bstep hb4 HB3.out)
        have HF4 := Lib.hid (HF.out.grow HB4.out)
        clear hb4 HFN3 HX3 x0 x1 x2 x3 x4 x5 x6 x7 HF
        obtain ⟨b, o, ha, hb⟩ := HF4.out.head hi
        obtain rfl : a = some ⟨b, o, none⟩ := ha
        obtain ⟨_, ⟨f0, f1, f2⟩, _⟩ := HF4.out.at hi
        unfold findR
        have y1 : ¬ ((i : Int) < 0) := by omega
        go_wp2_with fail
        refine (tend_c l[i] q1 (by omega) (by omega) w4).mono ?_
        rintro e w5 ⟨rfl, hb5⟩
        have HB5 := Lib.hid (bstep hb5 HB4.out)
        have HF5 := Lib.hid (HF4.out.grow hb5)
        have hz5 : b < w5.heap.size := Nat.lt_of_lt_of_le hb hb5.size
        clear hb5 HF4 f0 f1 f2 hb
        obtain ⟨_, ⟨f0, f1, f2⟩, _⟩ := HF5.out.at hi
        by_cases g1 : 100 ≤ l[i].log.length
        · obtain rfl : p = ([], 0, 6) := HP3.out.symm.trans (by rw [if_pos (.inl g1)])
          have y2 : (100 : Int) ≤ l[i].log.length := by omega
          go_wp2_with fail
          go_ret3
          exact AppRO.bad rfl HB5.out
        · have y2 : ¬ (100 : Int) ≤ l[i].log.length := by omega
          by_cases g2 : 1099511627775 ≤ l[i].first + (l[i].log.length : Int)
          · obtain rfl : p = ([], 0, 6) := HP3.out.symm.trans (by rw [if_pos (.inr g2)])
            go_wp2_with fail
            go_ret3
            exact AppRO.bad rfl HB5.out
          · obtain rfl : p = ((l.map TB.tp).set i ⟨l[i].name, l[i].first, l[i].log ++ [S]⟩, l[i].first + (l[i].log.length : Int), 0) := HP3.out.symm.trans (by rw [if_neg (by omega)])
            clear HP3
            go_wp2_with fail
            refine (HCL.out w5 HF5.out).mono ?_
            rintro e w6 ⟨a6, c6, l6, rfl, hl6, ht6, ho6, hg6, hb6⟩
            have HB6 := Lib.hid (bstep hb6 HB5.out)
            have hi6 : i < l6.length := by omega
            obtain ⟨g, c', hv, k1, k2, k3, ⟨cur, k4⟩, k5, _⟩ := TOwn.block ho6 (by omega)
            simp only [Value.slice.injEq] at hv
            have hv1 := hv.1
            clear hv
            subst hv1
            obtain ⟨e0, e1, e2⟩ := k5 i hi6
            have hti : l6[i].tp = l[i].tp := by
              have h6 : (l6.map TB.tp)[i]'(by simpa using hi6) = (l.map TB.tp)[i]'(by simpa using hi) := by simp only [ht6]
              simpa using h6
            have hfi : l6[i].first = l[i].first := congrArg Tp.first hti
            have hlo : l6[i].log = l[i].log := congrArg Tp.log hti
            have hni : l6[i].name = l[i].name := congrArg Tp.name hti
            have hgi := hg6 i hi6 (by omega)
            have hnb := typed_ne hgi k4 (by decide)
            obtain ⟨hs1, hs2⟩ := rows_strs hgi
            rw [hlo] at e2 hs1 hs2 hgi hnb
            have hcap := hs2.cap
            have HTI := Lib.hid hti
            have HT6 := Lib.hid ht6
            have HO6 := Lib.hid ho6
            have HG6 := Lib.hid hg6
            have HL6 := Lib.hid hl6
            have HS1 := Lib.hid hs1
            have HS2 := Lib.hid hs2
            have HFI := Lib.hid hfi
            have HNI := Lib.hid hni
            have k6 := k3 (i * 3 + 2)
            clear hti hfi hlo hni ht6 ho6 hg6 hb6 k5 hl6 hs1 hs2 hgi hnb k3 e0 e1 f0 f1 f2
            generalize l6[i].la = L6 at e2 HS1 HS2
            generalize l6[i].lc = C6 at e2 HS2 hcap
            obtain ⟨n, hn⟩ : ∃ n, l[i].log.length = n := ⟨_, rfl⟩
            obtain ⟨lg, hlg⟩ : ∃ lg, l[i].log = lg := ⟨_, rfl⟩
            rw [hlg] at HS1 HS2
            have HLN : Hid (lg.length = n) := Lib.hid (by rw [← hlg]; exact hn)
            have HLG := Lib.hid hlg
            rw [hn] at e2 hcap y2 g1 g2
            clear hlg hn
            obtain ⟨ii, z, hii, hz, h2, h3, h4⟩ := strT.info
            cases L6 with
            | none =>
              obtain rfl : C6 = 0 := HS2.out.zero rfl
              obtain rfl : n = 0 := by omega
              have hl0 : lg = [] := List.eq_nil_of_length_eq_zero HLN.out
              go_upto_region 20 with fail
              refine wp_region_lit ?_
              iterate 30 go_step
              refine wpList_append_grows _ rfl (.tmp 100) (.tmp 102) 72 rfl 9 ii z 1 16 strT.und hii hz h2 h3 h4 strT.pos (none) (0) (0) (lg.map Value.string) rfl (fun _ => ⟨rfl, rfl⟩) (by simp [HLN.out]) (fun b hb j u hj => ?_) ⟨w6.heap.size, 0, none⟩ 1 1 [.string S] rfl rfl ?_ (by simp [Value.oneCell']) (by omega) (by unfold maxLen; omega) (by omega) ?_
              · rw [hl0] at hj; simp at hj
              · intro j u hj
                have hj0 : j = 0 := by have := (List.getElem?_eq_some_iff.1 hj).1; simpa using this
                subst hj0
                simp at hj
                subst hj
                rw [Addr.add_lit]
                exact World.cell?_alloc_new _ _ _ _
              intro v8 w8 ho8 hg8
              have hbel : Below (w6.alloc (.cells #[.string S] 9)).heap.size (w6.alloc (.cells #[.string S] 9)) w8 := (Below.refl _ _).grown hg8 (Nat.le_refl _) (fun k hk => by cases hk)
              have hb8 : Below w6.heap.size w6 w8 := bstep hbel (balloc _ (.refl _ _))
              have hso : SOwn 9 w8 (w6.heap.size + 1) v8 (lg ++ [S]) := by
                unfold SOwn
                rw [List.length_append, List.map_append, HLN.out]
                simpa using ho8
              obtain ⟨a8, c8, hv8, hs8, hsl8, had8⟩ := hso.strs
              have hln : (lg ++ [S]).length = 0 + 1 := by rw [List.length_append, HLN.out]; rfl
              have hne8 : ∀ b o, a8 = some ⟨b, o, none⟩ → g ≠ b := fun b o h => by have := (had8 b o h).1; omega
              have hO := (HO6.out.grow hb8).put1 rfl hi6 a8 (lg ++ [S]) c8
              have HN8 : Hid (NewL w.heap.size (l6.set i ⟨l6[i].name, l6[i].first, a8, lg ++ [S], c8⟩)) := Lib.hid (by
                have h5 := HB5.out.size
                have h6 := HB6.out.size
                have hk := HG6.out
                rw [← HL6.out] at hk
                exact ((newL_of hk).mono h5).set i (fun b o h => by have := (had8 b o h).1; omega))
              have hgn : w.heap.size ≤ g := by have := HB5.out.size; omega
              have hG := (HG6.out.grow hb8)
              rw [← HL6.out] at hG
              have hG2 := hG.put1 (j := i * 3 + 2) (i := i) (t := ⟨l6[i].name, l6[i].first, a8, lg ++ [S], c8⟩) ((hb8.block g k2).trans k4) (.slice a8 (lg ++ [S]).length c8) ⟨hs8, hsl8⟩ hne8
              obtain ⟨h7, h8, h9⟩ := hO.tops hG2
              rw [hln] at h7 hv8
              rw [List.length_set, HL6.out] at h8
              have H7 := Lib.hid h7
              have H8 := Lib.hid h8
              have HMP : Hid ((l6.set i ⟨l6[i].name, l6[i].first, a8, lg ++ [S], c8⟩).map TB.tp = (l.map TB.tp).set i ⟨l[i].name, l[i].first, l[i].log ++ [S]⟩) := Lib.hid (by
                rw [List.map_set, HT6.out]
                show (l.map TB.tp).set i ⟨l6[i].name, l6[i].first, lg ++ [S]⟩ = _
                rw [HNI.out, HFI.out, HLG.out])
              have e3 : w8.cell? ⟨g, i * 3 + 2, none⟩ = some (.slice (none) (0) (0)) := (hb8.cell (p := ⟨g, i * 3 + 2, none⟩) k2).trans e2
              have e4 : w8.frozen? ⟨g, i * 3 + 2, none⟩ = false := (hb8.frozen (p := ⟨g, i * 3 + 2, none⟩) k2).trans k6
              have hz8 : g < w8.heap.size := Nat.lt_of_lt_of_le k2 hb8.size
              have HB8 := Lib.hid (bset (p := ⟨g, i * 3 + 2, none⟩) (.slice a8 (0 + 1) c8) (by show w.heap.size ≤ g; have := HB5.out.size; omega) (bstep hb8 HB6.out))
              subst hv8
              clear hbel hb8 ho8 hg8 hso hs8 hsl8 had8 hne8 hO hG hG2 h7 h8 h9 hln e2 k6
              go_wp2_with fail
              go_ret3
              refine ⟨some ⟨g, 0, none⟩, c6, _, ?_, HMP.out, H7.out, ?_, HB8.out, HN8.out, fun b o h => by cases h; exact hgn⟩
              · show Ending.returned _ = Ending.returned (.tuple #[.slice _ ((l.map TB.tp).set i _).length _, .int .i64 _, .int .i64 ((0 : Nat) : Int)])
                rw [List.length_set, List.length_map]
                rfl
              · show Sl _ _ ((l.map TB.tp).set i _).length
                rw [List.length_set, List.length_map]; exact H8.out
            | some A =>
              obtain ⟨h, oo, sp⟩ := A
              obtain rfl : sp = none := HS2.out.spot _ rfl
              go_upto_region 20 with fail
              refine wp_region_lit ?_
              iterate 30 go_step
              refine wpList_append_grows _ rfl (.tmp 100) (.tmp 102) 72 rfl 9 ii z 1 16 strT.und hii hz h2 h3 h4 strT.pos (some ⟨h, oo, none⟩) (n) (n) (lg.map Value.string) rfl (fun h => by cases h) (by simp [HLN.out]) (fun b hb j u hj => ?_) ⟨w6.heap.size, 0, none⟩ 1 1 [.string S] rfl rfl ?_ (by simp [Value.oneCell']) (by omega) (by unfold maxLen; omega) (by omega) ?_
              · (cases hb; have hjl : j < lg.length := (by have := (List.getElem?_eq_some_iff.1 hj).1; simpa using this); obtain ⟨hbz, hbc⟩ := HS1.out.at hjl; rw [List.getElem?_map, List.getElem?_eq_getElem hjl] at hj; rw [Addr.add_lit, (balloc _ (.refl w6.heap.size w6)).cell (p := ⟨h, oo + j, none⟩) hbz, hbc]; exact hj)
              · intro j u hj
                have hj0 : j = 0 := by have := (List.getElem?_eq_some_iff.1 hj).1; simpa using this
                subst hj0
                simp at hj
                subst hj
                rw [Addr.add_lit]
                exact World.cell?_alloc_new _ _ _ _
              intro v8 w8 ho8 hg8
              have hbel : Below (w6.alloc (.cells #[.string S] 9)).heap.size (w6.alloc (.cells #[.string S] 9)) w8 := (Below.refl _ _).grown hg8 (Nat.le_refl _) (fun k hk => by cases hk)
              have hb8 : Below w6.heap.size w6 w8 := bstep hbel (balloc _ (.refl _ _))
              have hso : SOwn 9 w8 (w6.heap.size + 1) v8 (lg ++ [S]) := by
                unfold SOwn
                rw [List.length_append, List.map_append, HLN.out]
                simpa using ho8
              obtain ⟨a8, c8, hv8, hs8, hsl8, had8⟩ := hso.strs
              have hln : (lg ++ [S]).length = n + 1 := by rw [List.length_append, HLN.out]; rfl
              have hne8 : ∀ b o, a8 = some ⟨b, o, none⟩ → g ≠ b := fun b o h => by have := (had8 b o h).1; omega
              have hO := (HO6.out.grow hb8).put1 rfl hi6 a8 (lg ++ [S]) c8
              have HN8 : Hid (NewL w.heap.size (l6.set i ⟨l6[i].name, l6[i].first, a8, lg ++ [S], c8⟩)) := Lib.hid (by
                have h5 := HB5.out.size
                have h6 := HB6.out.size
                have hk := HG6.out
                rw [← HL6.out] at hk
                exact ((newL_of hk).mono h5).set i (fun b o h => by have := (had8 b o h).1; omega))
              have hgn : w.heap.size ≤ g := by have := HB5.out.size; omega
              have hG := (HG6.out.grow hb8)
              rw [← HL6.out] at hG
              have hG2 := hG.put1 (j := i * 3 + 2) (i := i) (t := ⟨l6[i].name, l6[i].first, a8, lg ++ [S], c8⟩) ((hb8.block g k2).trans k4) (.slice a8 (lg ++ [S]).length c8) ⟨hs8, hsl8⟩ hne8
              obtain ⟨h7, h8, h9⟩ := hO.tops hG2
              rw [hln] at h7 hv8
              rw [List.length_set, HL6.out] at h8
              have H7 := Lib.hid h7
              have H8 := Lib.hid h8
              have HMP : Hid ((l6.set i ⟨l6[i].name, l6[i].first, a8, lg ++ [S], c8⟩).map TB.tp = (l.map TB.tp).set i ⟨l[i].name, l[i].first, l[i].log ++ [S]⟩) := Lib.hid (by
                rw [List.map_set, HT6.out]
                show (l.map TB.tp).set i ⟨l6[i].name, l6[i].first, lg ++ [S]⟩ = _
                rw [HNI.out, HFI.out, HLG.out])
              have e3 : w8.cell? ⟨g, i * 3 + 2, none⟩ = some (.slice (some ⟨h, oo, none⟩) (n) (C6)) := (hb8.cell (p := ⟨g, i * 3 + 2, none⟩) k2).trans e2
              have e4 : w8.frozen? ⟨g, i * 3 + 2, none⟩ = false := (hb8.frozen (p := ⟨g, i * 3 + 2, none⟩) k2).trans k6
              have hz8 : g < w8.heap.size := Nat.lt_of_lt_of_le k2 hb8.size
              have HB8 := Lib.hid (bset (p := ⟨g, i * 3 + 2, none⟩) (.slice a8 (n + 1) c8) (by show w.heap.size ≤ g; have := HB5.out.size; omega) (bstep hb8 HB6.out))
              subst hv8
              clear hbel hb8 ho8 hg8 hso hs8 hsl8 had8 hne8 hO hG hG2 h7 h8 h9 hln e2 k6
              go_wp2_with fail
              go_ret3
              refine ⟨some ⟨g, 0, none⟩, c6, _, ?_, HMP.out, H7.out, ?_, HB8.out, HN8.out, fun b o h => by cases h; exact hgn⟩
              · show Ending.returned _ = Ending.returned (.tuple #[.slice _ ((l.map TB.tp).set i _).length _, .int .i64 _, .int .i64 ((0 : Nat) : Int)])
                rw [List.length_set, List.length_map]
                rfl
              · show Sl _ _ ((l.map TB.tp).set i _).length
                rw [List.length_set, List.length_map]; exact H8.out
theorem tappend_c (a : Option Addr) (c : Nat) (l : List TB) (hl : l.length ≤ 1000000) (hI : TIn l) (tt pp : ByteArray) (q : Int) (ae : Option Addr) (le : List FB) (ce : Nat) (ht : tt.size ≤ 1000000000) (hp : pp.size ≤ 1000000000) (h0 : 0 ≤ q) (h4 : q ≤ 18446744073709551615) (hlE : le.length ≤ 1000000000) (hO : FOk le) (w : World) (hM : MaxW w) (hF : Tops w a l) (hS : Sl a c l.length) (hE : Flds w ae le) :
    Calls Try.prog 31 #[.slice a l.length c, .agg #[.string tt, .string pp, .int .u64 q, .slice ae le.length ce]] w fun e w' => AppR w (appP (l.map TB.tp) (evMay tt pp q le) tt ⟨(evE tt pp q le).lay.toArray⟩) e w' :=
  (tappendO_c a c l hl hI tt pp q ae le ce ht hp h0 h4 hlE hO w hM hF hS hE).mono fun e w' h => by
    obtain ⟨a', c', l', h1, h2, h3, h4, h5, _⟩ := h
    exact ⟨a', c', l', h1, h2, h3, h4, h5⟩
end Go.Proofs.Ytcbnehplilpidaa
