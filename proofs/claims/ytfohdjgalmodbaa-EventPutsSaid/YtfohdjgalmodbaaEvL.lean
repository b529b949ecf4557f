/- Plain facts: an event s octets, and how they are taken; nothing of the program. -/
import Derived.Test.YtfohdjgalmodbaaEvP
set_option linter.unusedVariables false
set_option linter.unusedSimpArgs false
namespace Tryst
open Go Go.Lib
def textL (s : List UInt8) : List UInt8 := pack s.length ++ s
def Fld.lay (f : Fld) : List UInt8 := textL f.name ++ f.v.lay
def layF : List Fld → List UInt8
  | [] => []
  | f :: l => f.lay ++ layF l
/-- an event's octets -/
def Ev.lay (e : Ev) : List UInt8 := textL e.topic ++ (textL e.prod ++ (pack e.seq ++ (pack e.l.length ++ layF e.l)))
def Ev.Fits (e : Ev) : Prop := e.seq < 2 ^ 64 ∧ ∀ f ∈ e.l, f.v.Fits
def Ev.zero : Ev := ⟨[], [], 0, []⟩
theorem layF_append (a b : List Fld) : layF (a ++ b) = layF a ++ layF b := by
  induction a with
  | nil => rfl
  | cons f a ih => rw [List.cons_append, layF, layF, ih, List.append_assoc]
/-! ### The reader: at which place it is, and its first error -/
def rnum (l : List UInt8) (most : Nat) (st : Nat × Nat) : Nat × (Nat × Nat) :=
  if st.2 ≠ 0 then (0, st)
  else if (unp (l.drop st.1)).2.2 ≠ 0 then (0, (st.1, (unp (l.drop st.1)).2.2))
  else if most < (unp (l.drop st.1)).1 then (0, (st.1, 2))
  else ((unp (l.drop st.1)).1, (st.1 + (unp (l.drop st.1)).2.1, 0))
def rtext (l : List UInt8) (most : Nat) (st : Nat × Nat) : List UInt8 × (Nat × Nat) :=
  if (rnum l most st).2.2 ≠ 0 then ([], (rnum l most st).2)
  else if l.length - (rnum l most st).2.1 < (rnum l most st).1 then ([], ((rnum l most st).2.1, 3))
  else ((l.drop (rnum l most st).2.1).take (rnum l most st).1, ((rnum l most st).2.1 + (rnum l most st).1, 0))
def rval (l : List UInt8) (st : Nat × Nat) : V × (Nat × Nat) :=
  if st.2 ≠ 0 then (V.zero, st) else ((takeV (l.drop st.1)).1, (st.1 + (takeV (l.drop st.1)).2.1, (takeV (l.drop st.1)).2.2))
def rfld (l : List UInt8) (st : Nat × Nat) : Fld × (Nat × Nat) :=
  (⟨(rtext l 16 st).1, (rval l (rtext l 16 st).2).1⟩, (rval l (rtext l 16 st).2).2)
def rflds (l : List UInt8) : Nat → Nat × Nat → List Fld × (Nat × Nat)
  | 0, st => ([], st)
  | n + 1, st => ((rfld l st).1 :: (rflds l n (rfld l st).2).1, (rflds l n (rfld l st).2).2)
def rE1 (l : List UInt8) : List UInt8 × (Nat × Nat) := rtext l 40 (0, 0)
def rE2 (l : List UInt8) : List UInt8 × (Nat × Nat) := rtext l 16 (rE1 l).2
def rE3 (l : List UInt8) : Nat × (Nat × Nat) := rnum l 18446744073709551615 (rE2 l).2
def rE4 (l : List UInt8) : Nat × (Nat × Nat) := rnum l 8 (rE3 l).2
def rE5 (l : List UInt8) : List Fld × (Nat × Nat) := rflds l (rE4 l).1 (rE4 l).2
def rE (l : List UInt8) : Ev := ⟨(rE1 l).1, (rE2 l).1, (rE3 l).1, (rE5 l).1⟩
/-- the event with which octets begin, how many, and the error -/
def takeE (l : List UInt8) : Ev × Nat × Nat :=
  if (rE5 l).2.2 ≠ 0 then (Ev.zero, 0, (rE5 l).2.2)
  else if 800 < (rE5 l).2.1 ∨ (rE l).may = false then (Ev.zero, 0, 2)
  else (rE l, (rE5 l).2.1, 0)
/-- what is laid so is read so; cut short, it is too short -/
structure Piece {α : Type} (f : List UInt8 → Nat × Nat → α × (Nat × Nat)) (p : List UInt8) (x : α) : Prop where
  ok : ∀ l a t, l.drop a = p ++ t → f l (a, 0) = (x, (a + p.length, 0))
  short : ∀ l a j, l.drop a = p.take j → j < p.length → (f l (a, 0)).2.2 = 3
  keep : ∀ l a e, e ≠ 0 → (f l (a, e)).2.2 = e
theorem rnum_keep (l : List UInt8) (most a e : Nat) (h : e ≠ 0) : rnum l most (a, e) = (0, (a, e)) := by unfold rnum; rw [if_pos h]
theorem piece_num (most n : Nat) (h : n < 2 ^ 64) (hm : n ≤ most) : Piece (fun l st => rnum l most st) (pack n) n where
  ok := by
    intro l a t e
    unfold rnum
    simp only [e, unp_pack n h t]
    rw [if_neg (by simp), if_neg (by simp), if_neg (by omega)]
  short := by
    intro l a j e hj
    unfold rnum
    simp only [e, unp_short n j hj]
    simp
  keep := by
    intro l a e h
    show (rnum l most (a, e)).2.2 = e
    rw [rnum_keep l most a e h]
theorem piece_text (most : Nat) (s : List UInt8) (h : s.length < 2 ^ 64) (hm : s.length ≤ most) : Piece (fun l st => rtext l most st) (textL s) s where
  ok := by
    intro l a t e
    have e' : l.drop a = pack s.length ++ (s ++ t) := by rw [e]; unfold textL; rw [List.append_assoc]
    have h1 := (piece_num most s.length h hm).ok l a _ e'
    have h2 : l.drop (a + (pack s.length).length) = s ++ t := by rw [← List.drop_drop, e', List.drop_left]
    have h3 : l.length - (a + (pack s.length).length) = s.length + t.length := by
      rw [← List.length_drop, h2, List.length_append]
    show rtext l most (a, 0) = _
    unfold rtext
    simp only [h1]
    rw [if_neg (by simp), if_neg (by omega), h2, List.take_left]
    unfold textL
    rw [List.length_append, Nat.add_assoc]
  short := by
    intro l a j e hj
    show (rtext l most (a, 0)).2.2 = 3
    unfold textL at e hj
    by_cases hl : j < (pack s.length).length
    · have e' : l.drop a = (pack s.length).take j := by rw [e, List.take_append_of_le_length (by omega)]
      have h1 := (piece_num most s.length h hm).short l a j e' hl
      unfold rtext
      rw [h1]
      simp only [ne_eq, Nat.reduceEqDiff, not_false_eq_true, if_true]
      exact h1
    · have e' : l.drop a = pack s.length ++ s.take (j - (pack s.length).length) := by
        rw [e, List.take_append, List.take_of_length_le (by omega)]
      have h1 := (piece_num most s.length h hm).ok l a _ e'
      have h2 : l.drop (a + (pack s.length).length) = s.take (j - (pack s.length).length) := by rw [← List.drop_drop, e', List.drop_left]
      have h3 : l.length - (a + (pack s.length).length) = (s.take (j - (pack s.length).length)).length := by
        rw [← List.length_drop, h2]
      rw [List.length_append] at hj
      rw [List.length_take] at h3
      unfold rtext
      simp only [h1]
      rw [if_neg (by simp), if_pos (by omega)]
  keep := by
    intro l a e h
    show (rtext l most (a, e)).2.2 = e
    unfold rtext
    rw [rnum_keep l most a e h]
    rw [if_pos h]
theorem piece_val (v : V) (hm : v.May) (hf : v.Fits) : Piece (fun l st => rval l st) v.lay v where
  ok := by
    intro l a t e
    show rval l (a, 0) = _
    unfold rval
    simp only [e, take_lay v hm hf t]
    rw [if_neg (by simp)]
  short := by
    intro l a j e hj
    show (rval l (a, 0)).2.2 = 3
    unfold rval
    simp only [e, take_short v hm j hj]
    rw [if_neg (by simp)]
  keep := by
    intro l a e h
    show (rval l (a, e)).2.2 = e
    unfold rval
    rw [if_pos h]
/-- one piece behind another -/
theorem Piece.bind {α β : Type} {f : List UInt8 → Nat × Nat → α × (Nat × Nat)} {g : List UInt8 → Nat × Nat → β × (Nat × Nat)} {p q : List UInt8} {x : α} {y : β} (hf : Piece f p x) (hg : Piece g q y) :
    Piece (fun l st => (((f l st).1, (g l (f l st).2).1), (g l (f l st).2).2)) (p ++ q) (x, y) where
  ok := by
    intro l a t e
    rw [List.append_assoc] at e
    have h1 := hf.ok l a _ e
    have h2 := hg.ok l (a + p.length) t (by rw [← List.drop_drop, e, List.drop_left])
    simp only [h1, h2, List.length_append, Nat.add_assoc]
  short := by
    intro l a j e hj
    rw [List.length_append] at hj
    by_cases hl : j < p.length
    · have h1 := hf.short l a j (by rw [e, List.take_append_of_le_length (by omega)]) hl
      show (g l (f l (a, 0)).2).2.2 = 3
      generalize f l (a, 0) = r at h1 ⊢
      obtain ⟨z, b, c⟩ := r
      simp only at h1 ⊢
      subst h1
      exact hg.keep l b 3 (by decide)
    · have e' : l.drop a = p ++ q.take (j - p.length) := by rw [e, List.take_append, List.take_of_length_le (by omega)]
      have h1 := hf.ok l a _ e'
      have h2 := hg.short l (a + p.length) (j - p.length) (by rw [← List.drop_drop, e', List.drop_left]) (by omega)
      simp only [h1]
      exact h2
  keep := by
    intro l a e h
    have h1 := hf.keep l a e h
    show (g l (f l (a, e)).2).2.2 = e
    generalize f l (a, e) = r at h1 ⊢
    obtain ⟨z, b, c⟩ := r
    simp only at h1 ⊢
    subst h1
    exact hg.keep l b c h
theorem Piece.map {α β : Type} {f : List UInt8 → Nat × Nat → α × (Nat × Nat)} {p : List UInt8} {x : α} (hf : Piece f p x) (u : α → β) : Piece (fun l st => (u (f l st).1, (f l st).2)) p (u x) where
  ok := by intro l a t e; simp only [hf.ok l a t e]
  short := by intro l a j e hj; exact hf.short l a j e hj
  keep := by intro l a e h; exact hf.keep l a e h
theorem piece_fld (f : Fld) (hn : f.name.length ≤ 16) (hm : f.v.May) (hf : f.v.Fits) : Piece (fun l st => rfld l st) f.lay f :=
  ((piece_text 16 f.name (by omega) hn).bind (piece_val f.v hm hf)).map (fun z => (⟨z.1, z.2⟩ : Fld))
theorem piece_flds (L : List Fld) (h : ∀ f ∈ L, f.name.length ≤ 16 ∧ f.v.May ∧ f.v.Fits) : Piece (fun l st => rflds l L.length st) (layF L) L := by
  induction L with
  | nil => exact ⟨fun l a t e => rfl, fun l a j e hj => by simp [layF] at hj, fun l a e h => rfl⟩
  | cons f L ih =>
    obtain ⟨h1, h2, h3⟩ := h f (by simp)
    exact ((piece_fld f h1 h2 h3).bind (ih fun g hg => h g (by simp [hg]))).map (fun z => z.1 :: z.2)
set_option maxHeartbeats 1000000 in
theorem piece_ev (e : Ev) (ht : e.topic.length ≤ 40) (hp : e.prod.length ≤ 16) (hq : e.seq < 2 ^ 64) (hl : e.l.length ≤ 8) (h : ∀ f ∈ e.l, f.name.length ≤ 16 ∧ f.v.May ∧ f.v.Fits) :
    (∀ t, rE (e.lay ++ t) = e ∧ (rE5 (e.lay ++ t)).2 = (e.lay.length, 0)) ∧ (∀ j, j < e.lay.length → (rE5 (e.lay.take j)).2.2 = 3) := by
  have P1 := piece_text 40 e.topic (by omega) ht
  have P2 := piece_text 16 e.prod (by omega) hp
  have P3 := piece_num 18446744073709551615 e.seq hq (by omega)
  have P4 := piece_num 8 e.l.length (by omega) hl
  have P5 := piece_flds e.l h
  obtain ⟨T, hT⟩ : ∃ T, textL e.topic = T := ⟨_, rfl⟩
  obtain ⟨U, hU⟩ : ∃ U, textL e.prod = U := ⟨_, rfl⟩
  obtain ⟨Q, hQ⟩ : ∃ Q, pack e.seq = Q := ⟨_, rfl⟩
  obtain ⟨N, hN⟩ : ∃ N, pack e.l.length = N := ⟨_, rfl⟩
  obtain ⟨F, hF⟩ : ∃ F, layF e.l = F := ⟨_, rfl⟩
  have hL : e.lay = T ++ (U ++ (Q ++ (N ++ F))) := by unfold Ev.lay; rw [hT, hU, hQ, hN, hF]
  rw [hT] at P1
  rw [hU] at P2
  rw [hQ] at P3
  rw [hN] at P4
  rw [hF] at P5
  clear hT hU hQ hN hF
  refine ⟨fun t => ?_, fun j hj => ?_⟩
  · rw [hL]
    obtain ⟨l, hl⟩ : ∃ l, T ++ (U ++ (Q ++ (N ++ F))) ++ t = l := ⟨_, rfl⟩
    rw [hl]
    have d0 : l.drop 0 = T ++ (U ++ (Q ++ (N ++ (F ++ t)))) := by rw [← hl]; simp
    have d1 : l.drop (0 + T.length) = U ++ (Q ++ (N ++ (F ++ t))) := by rw [← List.drop_drop, d0, List.drop_left]
    have d2 : l.drop (0 + T.length + U.length) = Q ++ (N ++ (F ++ t)) := by rw [← List.drop_drop, d1, List.drop_left]
    have d3 : l.drop (0 + T.length + U.length + Q.length) = N ++ (F ++ t) := by rw [← List.drop_drop, d2, List.drop_left]
    have d4 : l.drop (0 + T.length + U.length + Q.length + N.length) = F ++ t := by rw [← List.drop_drop, d3, List.drop_left]
    have h1 : rE1 l = (e.topic, (0 + T.length, 0)) := P1.ok l _ _ d0
    have h2 : rE2 l = (e.prod, (0 + T.length + U.length, 0)) := by unfold rE2; rw [h1]; exact P2.ok l _ _ d1
    have h3 : rE3 l = (e.seq, (0 + T.length + U.length + Q.length, 0)) := by unfold rE3; rw [h2]; exact P3.ok l _ _ d2
    have h4 : rE4 l = (e.l.length, (0 + T.length + U.length + Q.length + N.length, 0)) := by unfold rE4; rw [h3]; exact P4.ok l _ _ d3
    have h5 : rE5 l = (e.l, (0 + T.length + U.length + Q.length + N.length + F.length, 0)) := by unfold rE5; rw [h4]; exact P5.ok l _ _ d4
    refine ⟨by unfold rE; rw [h1, h2, h3, h5], ?_⟩
    rw [h5]
    simp only [List.length_append]
    rw [Prod.mk.injEq]
    exact ⟨by omega, rfl⟩
  · rw [hL] at hj ⊢
    obtain ⟨l, hl⟩ : ∃ l, (T ++ (U ++ (Q ++ (N ++ F)))).take j = l := ⟨_, rfl⟩
    rw [hl]
    have k5 : ∀ n a, (rflds l n (a, 3)).2.2 = 3 := by
      intro n
      induction n with
      | zero => intro a; rfl
      | succ n ih =>
        intro a
        have e1 : (rfld l (a, 3)).2 = (a, 3) := by
          unfold rfld rtext
          rw [rnum_keep l 16 a 3 (by decide)]
          rfl
        show (rflds l n (rfld l (a, 3)).2).2.2 = 3
        rw [e1]; exact ih a
    have k4 : ∀ (st : Nat × Nat), st.2 = 3 → (rflds l (rnum l 8 st).1 (rnum l 8 st).2).2.2 = 3 := by
      rintro ⟨a, b⟩ rfl
      rw [rnum_keep l 8 a 3 (by decide)]
      exact k5 _ _
    have k3 : ∀ (st : Nat × Nat), st.2 = 3 → (rnum l 18446744073709551615 st).2.2 = 3 := by
      rintro ⟨a, b⟩ rfl
      exact P3.keep l a 3 (by decide)
    have k2 : ∀ (st : Nat × Nat), st.2 = 3 → (rtext l 16 st).2.2 = 3 := by
      rintro ⟨a, b⟩ rfl
      exact P2.keep l a 3 (by decide)
    simp only [List.length_append] at hj
    by_cases c1 : j < T.length
    · have h1 : (rE1 l).2.2 = 3 := P1.short l 0 j (by rw [List.drop_zero, ← hl, List.take_append_of_le_length (by omega)]) c1
      exact k4 _ (k3 _ (k2 _ h1))
    · have d0 : l.drop 0 = T ++ (U ++ (Q ++ (N ++ F))).take (j - T.length) := by rw [List.drop_zero, ← hl, List.take_append, List.take_of_length_le (by omega)]
      have h1 : rE1 l = (e.topic, (0 + T.length, 0)) := P1.ok l _ _ d0
      have d1 : l.drop (0 + T.length) = (U ++ (Q ++ (N ++ F))).take (j - T.length) := by rw [← List.drop_drop, d0, List.drop_left]
      obtain ⟨i, hi⟩ : ∃ i, j - T.length = i := ⟨_, rfl⟩
      rw [hi] at d1
      by_cases c2 : i < U.length
      · have h2 : (rE2 l).2.2 = 3 := by unfold rE2; rw [h1]; exact P2.short l _ i (by rw [d1, List.take_append_of_le_length (by omega)]) c2
        exact k4 _ (k3 _ h2)
      · rw [List.take_append, List.take_of_length_le (by omega)] at d1
        have h2 : rE2 l = (e.prod, (0 + T.length + U.length, 0)) := by unfold rE2; rw [h1]; exact P2.ok l _ _ d1
        have d2 : l.drop (0 + T.length + U.length) = (Q ++ (N ++ F)).take (i - U.length) := by rw [← List.drop_drop, d1, List.drop_left]
        obtain ⟨i2, hi2⟩ : ∃ i2, i - U.length = i2 := ⟨_, rfl⟩
        rw [hi2] at d2
        by_cases c3 : i2 < Q.length
        · have h3 : (rE3 l).2.2 = 3 := by unfold rE3; rw [h2]; exact P3.short l _ i2 (by rw [d2, List.take_append_of_le_length (by omega)]) c3
          exact k4 _ h3
        · rw [List.take_append, List.take_of_length_le (by omega)] at d2
          have h3 : rE3 l = (e.seq, (0 + T.length + U.length + Q.length, 0)) := by unfold rE3; rw [h2]; exact P3.ok l _ _ d2
          have d3 : l.drop (0 + T.length + U.length + Q.length) = (N ++ F).take (i2 - Q.length) := by rw [← List.drop_drop, d2, List.drop_left]
          obtain ⟨i3, hi3⟩ : ∃ i3, i2 - Q.length = i3 := ⟨_, rfl⟩
          rw [hi3] at d3
          by_cases c4 : i3 < N.length
          · have h4 : (rE4 l).2.2 = 3 := by unfold rE4; rw [h3]; exact P4.short l _ i3 (by rw [d3, List.take_append_of_le_length (by omega)]) c4
            unfold rE5
            generalize rE4 l = r at h4 ⊢
            obtain ⟨x, y, z⟩ := r
            simp only at h4
            subst h4
            exact k5 _ _
          · rw [List.take_append, List.take_of_length_le (by omega)] at d3
            have h4 : rE4 l = (e.l.length, (0 + T.length + U.length + Q.length + N.length, 0)) := by unfold rE4; rw [h3]; exact P4.ok l _ _ d3
            have d4 : l.drop (0 + T.length + U.length + Q.length + N.length) = F.take (i3 - N.length) := by rw [← List.drop_drop, d3, List.drop_left]
            unfold rE5
            rw [h4]
            exact P5.short l _ _ d4 (by omega)
theorem topic_le {s : List UInt8} (h : topicB s = true) : s.length ≤ 40 := by
  unfold topicB at h; simp at h; exact h.1.1
theorem field_le {s : List UInt8} (h : fieldB s = true) : s.length ≤ 16 := by
  unfold fieldB at h; simp at h; exact h.1.1
theorem okF_each {l : List Fld} : ∀ {p : Option (List UInt8)}, okF p l = true → ∀ f ∈ l, fieldB f.name = true ∧ f.v.May := by
  induction l with
  | nil => intro p h f hf; cases hf
  | cons g l ih =>
    intro p h f hf
    rw [okF_head] at h
    rcases List.mem_cons.1 hf with rfl | hf
    · exact ⟨h.1, of_decide_eq_true h.2.1⟩
    · exact ih h.2.2.2 f hf
theorem may_parts {e : Ev} (h : e.may = true) : e.topic.length ≤ 40 ∧ e.prod.length ≤ 16 ∧ e.l.length ≤ 8 ∧ ∀ f ∈ e.l, f.name.length ≤ 16 ∧ f.v.May := by
  unfold Ev.may at h
  simp only [Bool.and_eq_true, decide_eq_true_eq] at h
  obtain ⟨⟨⟨⟨h1, h2⟩, h3⟩, h4⟩, h5⟩ := h
  exact ⟨topic_le h1, field_le h2, h4, fun f hf => ⟨field_le (okF_each h5 f hf).1, (okF_each h5 f hf).2⟩⟩
theorem pack_le (n : Nat) : (pack n).length ≤ 10 := (packF_length 9 n).2
theorem pack_pos (n : Nat) : 1 ≤ (pack n).length := (packF_length 9 n).1
theorem pack_one {n : Nat} (h : n < 128) : (pack n).length = 1 := by
  unfold pack packF; rw [if_pos h]; rfl
theorem text_le {s : List UInt8} {m : Nat} (h : s.length ≤ m) (hm : m < 128) : (textL s).length ≤ m + 1 := by
  unfold textL; rw [List.length_append, pack_one (by omega)]; omega
theorem layF_le {l : List Fld} (h : ∀ f ∈ l, f.name.length ≤ 16 ∧ f.v.May) : (layF l).length ≤ l.length * 88 := by
  induction l with
  | nil => simp [layF]
  | cons f l ih =>
    rw [layF, Fld.lay, List.length_append, List.length_append, List.length_cons]
    have h1 := ih fun g hg => h g (by simp [hg])
    obtain ⟨h2, h3⟩ := h f (by simp)
    have h4 := text_le h2 (by decide)
    have h5 := lay_le f.v h3
    omega
theorem elay_le {e : Ev} (h : e.may = true) : e.lay.length ≤ 800 := by
  obtain ⟨h1, h2, h3, h4⟩ := may_parts h
  have h5 := text_le h1 (by decide)
  have h6 := text_le h2 (by decide)
  have h7 := pack_le e.seq
  have h8 := pack_le e.l.length
  have h9 := layF_le h4
  unfold Ev.lay
  simp only [List.length_append]
  omega
theorem etake_lay (e : Ev) (h : e.may = true) (hf : e.Fits) (t : List UInt8) : takeE (e.lay ++ t) = (e, e.lay.length, 0) := by
  obtain ⟨h1, h2, h3, h4⟩ := may_parts h
  obtain ⟨p1, p2⟩ := (piece_ev e h1 h2 hf.1 h3 fun f hm => ⟨(h4 f hm).1, (h4 f hm).2, hf.2 f hm⟩).1 t
  have h5 := elay_le h
  unfold takeE
  rw [p1, p2]
  simp only
  rw [if_neg (by simp), if_neg (by rw [h]; simp; omega)]
theorem etake_short (e : Ev) (h : e.may = true) (hf : e.Fits) (j : Nat) (hj : j < e.lay.length) : takeE (e.lay.take j) = (Ev.zero, 0, 3) := by
  obtain ⟨h1, h2, h3, h4⟩ := may_parts h
  have p := (piece_ev e h1 h2 hf.1 h3 fun f hm => ⟨(h4 f hm).1, (h4 f hm).2, hf.2 f hm⟩).2 j hj
  unfold takeE
  rw [p]
  simp
theorem elay_pos (e : Ev) : 0 < e.lay.length := by
  unfold Ev.lay textL
  have := pack_pos e.topic.length
  simp only [List.length_append]
  omega
theorem elay_prefix {a b : Ev} (ha : a.may = true) (hb : b.may = true) (fa : a.Fits) (fb : b.Fits) (t : List UInt8) (h : b.lay = a.lay ++ t) : a = b := by
  have h1 := etake_lay a ha fa t
  have h2 := etake_lay b hb fb []
  rw [List.append_nil, h, h1] at h2
  exact (Prod.mk.inj h2).1
theorem elay_inj {a b : Ev} (ha : a.may = true) (hb : b.may = true) (fa : a.Fits) (fb : b.Fits) : a.lay = b.lay ↔ a = b :=
  ⟨fun h => elay_prefix ha hb fa fb [] (by rw [List.append_nil, h]), fun h => by rw [h]⟩
end Tryst
