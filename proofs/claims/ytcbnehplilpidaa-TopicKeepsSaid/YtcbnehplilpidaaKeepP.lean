/- What topics keep of events, in plain words. -/
import Derived.Test.YtcbnehplilpidaaTopN
import Derived.Test.YtcbnehplilpidaaTopH
import Derived.Test.YtcbnehplilpidaaTopE
import Derived.Test.YtcbnehplilpidaaBounds12
set_option linter.unusedVariables false
set_option linter.unusedSimpArgs false
namespace Tryst
open Go Go.Lib Go.Proofs.Ytcbnehplilpidaa
theorem mem_withT {L : List Tp} {t x : Tp} : x ∈ withT L t ↔ x = t ∨ (x ∈ L ∧ x.name ≠ t.name) := by
  unfold withT
  rw [List.mem_append, List.mem_cons, List.mem_filter, List.mem_filter]
  constructor
  · rintro (⟨h1, h2⟩ | rfl | ⟨h1, h2⟩)
    · exact .inr ⟨h1, fun e => by rw [e, lessB_irrefl] at h2; cases h2⟩
    · exact .inl rfl
    · exact .inr ⟨h1, fun e => by rw [e, lessB_irrefl] at h2; cases h2⟩
  · rintro (rfl | ⟨h1, h2⟩)
    · exact .inr (.inl rfl)
    · rcases lessB_total x.name t.name with h | h | h
      · exact .inl ⟨h1, h⟩
      · exact absurd h h2
      · exact .inr (.inr ⟨h1, h⟩)
theorem okT_with {L : List Tp} {t : Tp} (ht : tMay t = true) : ∀ {p : Option ByteArray}, okT p L = true → (∀ q, p = some q → lessB q t.name = true) → okT p (withT L t) = true := by
  induction L with
  | nil =>
    intro p h hp
    show okT p [t] = true
    rw [okT_cons]
    exact ⟨ht, hp, rfl⟩
  | cons x r ih =>
    intro p h hp
    rw [okT_cons] at h
    have ha := okT_above h.2.2
    rcases lessB_total x.name t.name with hl | hl | hl
    · have e : withT (x :: r) t = x :: withT r t := by
        unfold withT
        rw [List.filter_cons, if_pos hl, List.filter_cons, if_neg (by rw [lessB_asymm hl]; simp), List.cons_append]
      rw [e, okT_cons]
      exact ⟨h.1, h.2.1, ih h.2.2 (fun q hq => by cases hq; exact hl)⟩
    · have e1 : (x :: r).filter (fun y => lessB y.name t.name) = [] := filter_none (fun y hy => by
        rcases List.mem_cons.1 hy with rfl | hy
        · rw [hl]; exact lessB_irrefl _
        · exact lessB_asymm (by rw [← hl]; exact ha y hy))
      have e2 : (x :: r).filter (fun y => lessB t.name y.name) = r := by
        rw [List.filter_cons, if_neg (by rw [hl, lessB_irrefl]; simp)]
        exact filter_all (fun y hy => by rw [← hl]; exact ha y hy)
      unfold withT
      rw [e1, e2, List.nil_append, okT_cons]
      exact ⟨ht, hp, by rw [← hl]; exact h.2.2⟩
    · have e1 : (x :: r).filter (fun y => lessB y.name t.name) = [] := filter_none (fun y hy => by
        rcases List.mem_cons.1 hy with rfl | hy
        · exact lessB_asymm hl
        · exact lessB_asymm (lessB_trans hl (ha y hy)))
      have e2 : (x :: r).filter (fun y => lessB t.name y.name) = x :: r := filter_all (fun y hy => by
        rcases List.mem_cons.1 hy with rfl | hy
        · exact hl
        · exact lessB_trans hl (ha y hy))
      unfold withT
      rw [e1, e2, List.nil_append, okT_cons]
      refine ⟨ht, hp, ?_⟩
      rw [okT_cons]
      exact ⟨h.1, fun q hq => by cases hq; exact hl, h.2.2⟩
theorem topsMay_parts {L : List Tp} : topsMay L = true ↔ L.length ≤ 20 ∧ okT none L = true := by
  unfold topsMay
  rw [Bool.and_eq_true, decide_eq_true_eq]
def upd {α : Type} (A : List UInt8 → α) (n : List UInt8) (v : α) : List UInt8 → α := fun l => if l = n then v else A l
def layB (e : Ev) : ByteArray := ⟨e.lay.toArray⟩
/-- what is kept: A: each topic's events, from the first on; F: how many of them were trimmed -/
structure Kp (L : List Tp) (A : List UInt8 → List Ev) (F : List UInt8 → Nat) : Prop where
  ok : topsMay L = true
  ev : ∀ n, ∀ e ∈ A n, e.may = true ∧ e.Fits ∧ e.topic = n
  no : ∀ n : ByteArray, (∀ t ∈ L, t.name ≠ n) → A n.data.toList = [] ∧ F n.data.toList = 0
  at' : ∀ t ∈ L, A t.name.data.toList ≠ [] ∧ t.first = (F t.name.data.toList : Int) ∧ F t.name.data.toList ≤ (A t.name.data.toList).length ∧ t.log = ((A t.name.data.toList).drop (F t.name.data.toList)).map layB
theorem Kp.nil : Kp [] (fun _ => []) (fun _ => 0) :=
  ⟨rfl, fun n e h => (by cases h), fun _ _ => ⟨rfl, rfl⟩, fun t h => (by cases h)⟩
theorem ofB_lay {e : Ev} (hm : e.may = true) (hf : e.Fits) {n : ByteArray} (hn : e.topic = n.data.toList) : ofB (layB e) n = true := by
  have h := etake_lay e hm hf []
  rw [List.append_nil] at h
  unfold ofB
  rw [show (layB e).data.toList = e.lay from rfl, h]
  simp only [hn, decide_true, Bool.true_and, decide_eq_true_eq, Bool.and_true]
  show e.lay.length = e.lay.toArray.size
  simp
/-- a step: a topic put among them -/
theorem Kp.step {L : List Tp} {A : List UInt8 → List Ev} {F : List UInt8 → Nat} (h : Kp L A F) (t : Tp) (As : List Ev) (f : Nat) (hl : (withT L t).length ≤ 20) (ht : topicB t.name.data.toList = true) (hA : As ≠ []) (hf : t.first = (f : Int)) (hfl : f ≤ As.length) (hlog : t.log = (As.drop f).map layB) (h100 : t.log.length ≤ 100) (hmx : t.first ≤ 1099511627775 - t.log.length)
    (hev : ∀ e ∈ As, e.may = true ∧ e.Fits ∧ e.topic = t.name.data.toList) : Kp (withT L t) (upd A t.name.data.toList As) (upd F t.name.data.toList f) := by
  have htm : tMay t = true := by
    unfold tMay
    simp only [Bool.and_eq_true, decide_eq_true_eq, List.all_eq_true]
    refine ⟨ht, by omega, h100, hmx, fun s hs => ?_⟩
    rw [hlog] at hs
    obtain ⟨e, he, rfl⟩ := List.mem_map.1 hs
    obtain ⟨h1, h2, h3⟩ := hev e (List.mem_of_mem_drop he)
    exact ofB_lay h1 h2 h3
  have hok := topsMay_parts.1 h.ok
  refine ⟨topsMay_parts.2 ⟨hl, okT_with htm hok.2 (fun q hq => by cases hq)⟩, fun n e he => ?_, fun n hn => ?_, fun x hx => ?_⟩
  · unfold upd at he
    split at he
    · rename_i e1; rw [e1]; exact hev e he
    · exact h.ev n e he
  · have h1 := hn t (mem_withT.2 (.inl rfl))
    have h2 : n.data.toList ≠ t.name.data.toList := fun e => h1 (str_ext e.symm)
    unfold upd
    rw [if_neg h2, if_neg h2]
    refine h.no n fun x hx => ?_
    by_cases e : x.name = t.name
    · rw [e]; exact h1
    · exact hn x (mem_withT.2 (.inr ⟨hx, e⟩))
  · rcases mem_withT.1 hx with rfl | ⟨hx1, hx2⟩
    · unfold upd
      rw [if_pos rfl, if_pos rfl]
      exact ⟨hA, hf, hfl, hlog⟩
    · have h2 : x.name.data.toList ≠ t.name.data.toList := fun e => hx2 (str_ext e)
      unfold upd
      rw [if_neg h2, if_neg h2]
      exact h.at' x hx1
theorem may_topic {e : Ev} (h : e.may = true) : topicB e.topic = true := by
  unfold Ev.may at h
  simp only [Bool.and_eq_true] at h
  exact h.1.1.1.1
theorem Kp.app {L : List Tp} {A : List UInt8 → List Ev} {F : List UInt8 → Nat} (h : Kp L A F) (e : Ev) (hm : e.may = true) (hf : e.Fits) (n : ByteArray) (hn : e.topic = n.data.toList) (h0 : (appP L true n (layB e)).2.2 = 0) :
    (appP L true n (layB e)).2.1 = ((A n.data.toList).length : Int) ∧ Kp (appP L true n (layB e)).1 (upd A n.data.toList (A n.data.toList ++ [e])) F := by
  have hok := topsMay_parts.1 h.ok
  have hT : topicB n.data.toList = true := by rw [← hn]; exact may_topic hm
  have hF : ∀ f, f = F n.data.toList → upd F n.data.toList f = F := fun f hf => by
    funext l; unfold upd; split
    · rename_i e; rw [e, hf]
    · rfl
  unfold appP at h0 ⊢
  rw [if_pos ⟨h.ok, rfl⟩] at h0 ⊢
  cases hfi : findT L n with
  | none =>
    rw [hfi] at h0
    obtain ⟨ha, hz⟩ := h.no n (findT_none hfi)
    have hl20 : ¬ 20 ≤ L.length := fun h => by simp [h] at h0
    simp only [hl20, if_false]
    have e1 : L.take (aheadT L n) ++ ⟨n, 0, [layB e]⟩ :: L.drop (aheadT L n) = withT L ⟨n, 0, [layB e]⟩ := (withT_ins hok.2 ⟨n, 0, [layB e]⟩ (findT_none hfi)).symm
    rw [ha]
    refine ⟨rfl, ?_⟩
    rw [e1]
    have hs := h.step ⟨n, 0, [layB e]⟩ ([] ++ [e]) 0 (by
      rw [← e1, List.length_append, List.length_cons, List.length_take, List.length_drop]
      have := aheadT_le L n; omega) hT (by simp) rfl (by simp) rfl (by simp) (by show (0 : Int) ≤ 1099511627775 - ([layB e] : List ByteArray).length; simp) (fun x hx => by
        simp at hx; subst hx; exact ⟨hm, hf, hn⟩)
    rw [hF 0 hz.symm] at hs
    exact hs
  | some i =>
    obtain ⟨hi, hnm⟩ := findT_some hfi
    rw [hfi] at h0
    simp only [List.getElem?_eq_getElem hi] at h0 ⊢
    obtain ⟨p1, p2, p3, p4⟩ := h.at' L[i] (List.getElem_mem hi)
    rw [hnm] at p1 p2 p3 p4
    by_cases hc : 100 ≤ L[i].log.length ∨ 1099511627775 ≤ L[i].first + (L[i].log.length : Int)
    · rw [if_pos hc] at h0; cases h0
    · rw [if_neg hc]
      have hll : L[i].log.length = (A n.data.toList).length - F n.data.toList := by rw [p4]; simp
      refine ⟨by show L[i].first + (L[i].log.length : Int) = _; rw [p2, hll]; omega, ?_⟩
      have e1 : L.set i ⟨L[i].name, L[i].first, L[i].log ++ [layB e]⟩ = withT L ⟨L[i].name, L[i].first, L[i].log ++ [layB e]⟩ := (withT_set hok.2 ⟨L[i].name, L[i].first, L[i].log ++ [layB e]⟩ hi rfl).symm
      show Kp (L.set i ⟨L[i].name, L[i].first, L[i].log ++ [layB e]⟩) _ _
      have hs := h.step ⟨L[i].name, L[i].first, L[i].log ++ [layB e]⟩ (A n.data.toList ++ [e]) (F n.data.toList) (by rw [← e1, List.length_set]; exact hok.1) (by rw [hnm]; exact hT) (by simp) p2 (by simp; omega)
        (by show L[i].log ++ [layB e] = _; rw [List.drop_append_of_le_length p3, List.map_append, ← p4]; rfl) (by show (L[i].log ++ [layB e]).length ≤ 100; simp; omega) (by show L[i].first ≤ 1099511627775 - ((L[i].log ++ [layB e]).length : Int); simp; omega)
        (fun x hx => by
          rcases List.mem_append.1 hx with hx | hx
          · rw [hnm]; exact h.ev _ x hx
          · simp at hx; subst hx; rw [hnm]; exact ⟨hm, hf, hn⟩)
      rw [← e1] at hs
      dsimp only at hs
      rw [hnm, hF _ rfl] at hs
      rw [hnm]
      exact hs
theorem Kp.find {L : List Tp} {A : List UInt8 → List Ev} {F : List UInt8 → Nat} (h : Kp L A F) {n : ByteArray} (hn : A n.data.toList ≠ []) : ∃ i, ∃ hi : i < L.length, findT L n = some i ∧ L[i].name = n := by
  cases hfi : findT L n with
  | none => exact absurd (h.no n (findT_none hfi)).1 hn
  | some i =>
    obtain ⟨hi, hnm⟩ := findT_some hfi
    exact ⟨i, hi, rfl, hnm⟩
theorem Kp.trim {L : List Tp} {A : List UInt8 → List Ev} {F : List UInt8 → Nat} (h : Kp L A F) (n : ByteArray) (hn : A n.data.toList ≠ []) (u : Nat) :
    ((trimP L n u).2 = 0 → Kp (trimP L n u).1 A (upd F n.data.toList (max (F n.data.toList) u))) ∧ ((trimP L n u).2 ≠ 0 → (A n.data.toList).length < u) := by
  obtain ⟨i, hi, hfi, hnm⟩ := h.find hn
  have hok := topsMay_parts.1 h.ok
  obtain ⟨p1, p2, p3, p4⟩ := h.at' L[i] (List.getElem_mem hi)
  rw [hnm] at p1 p2 p3 p4
  have hll : L[i].log.length = (A n.data.toList).length - F n.data.toList := by rw [p4]; simp
  have hT : topicB n.data.toList = true := by
    cases hA : A n.data.toList with
    | nil => exact absurd hA p1
    | cons e r =>
      obtain ⟨h1, _, h3⟩ := h.ev n.data.toList e (by rw [hA]; exact List.mem_cons_self)
      rw [← h3]; exact may_topic h1
  have hUA : ∀ As, As = A n.data.toList → upd A n.data.toList As = A := fun f hf => by
    funext l; unfold upd; split
    · rename_i e; rw [e, hf]
    · rfl
  unfold trimP
  rw [if_pos h.ok, hfi]
  simp only [List.getElem?_eq_getElem hi]
  by_cases hc : (u : Int) < 0 ∨ L[i].first + (L[i].log.length : Int) < u
  · rw [if_pos hc]
    exact ⟨fun h => (by cases h), fun _ => by omega⟩
  · rw [if_neg hc]
    refine ⟨fun _ => ?_, fun h => absurd rfl h⟩
    show Kp (L.set i (trimT L[i] u)) A _
    have hin : (trimT L[i] u).name = n := by unfold trimT; split <;> exact hnm
    have e1 : L.set i (trimT L[i] u) = withT L (trimT L[i] u) := (withT_set hok.2 _ hi (by rw [hin]; exact hnm)).symm
    have htf : (trimT L[i] u).first = ((max (F n.data.toList) u : Nat) : Int) := by
      unfold trimT
      split
      · show (u : Int) = _; omega
      · rw [p2]; omega
    have htl : (trimT L[i] u).log = ((A n.data.toList).drop (max (F n.data.toList) u)).map layB := by
      unfold trimT
      split
      · rename_i hlt
        show L[i].log.drop (u - L[i].first).toNat = _
        rw [p4, ← List.map_drop, List.drop_drop, show max (F n.data.toList) u = F n.data.toList + (u - L[i].first).toNat by omega]
      · rw [p4, show max (F n.data.toList) u = F n.data.toList by omega]
    have htn : (trimT L[i] u).log.length = (A n.data.toList).length - max (F n.data.toList) u := by rw [htl]; simp
    obtain ⟨_, q2, q3, q4, _⟩ : True ∧ 0 ≤ L[i].first ∧ L[i].log.length ≤ 100 ∧ L[i].first ≤ 1099511627775 - L[i].log.length ∧ True := by
      have hx := okT_mem hok.2 L[i] (List.getElem_mem hi)
      unfold tMay at hx
      simp only [Bool.and_eq_true, decide_eq_true_eq] at hx
      exact ⟨trivial, hx.2.1, hx.2.2.1, hx.2.2.2.1, trivial⟩
    have hs := h.step (trimT L[i] u) (A n.data.toList) (max (F n.data.toList) u) (by rw [← e1, List.length_set]; exact hok.1) (by rw [hin]; exact hT) p1 htf (by omega) htl (by omega) (by rw [htf, htn]; omega) (fun x hx => by rw [hin]; exact h.ev _ x hx)
    rw [← e1, hin, hUA _ rfl] at hs
    exact hs
theorem Kp.endP {L : List Tp} {A : List UInt8 → List Ev} {F : List UInt8 → Nat} (h : Kp L A F) {n : ByteArray} (hn : A n.data.toList ≠ []) : Go.Proofs.Ytcbnehplilpidaa.endP L n = (((A n.data.toList).length : Int), 0) := by
  obtain ⟨i, hi, hfi, hnm⟩ := h.find hn
  obtain ⟨p1, p2, p3, p4⟩ := h.at' L[i] (List.getElem_mem hi)
  rw [hnm] at p1 p2 p3 p4
  unfold Go.Proofs.Ytcbnehplilpidaa.endP
  rw [if_pos h.ok, hfi]
  simp only [List.getElem?_eq_getElem hi, Option.map_some, Option.getD_some]
  rw [p2, p4]
  simp; omega
theorem Kp.readP {L : List Tp} {A : List UInt8 → List Ev} {F : List UInt8 → Nat} (h : Kp L A F) {n : ByteArray} (k : Nat) (hk : k < (A n.data.toList).length) : Go.Proofs.Ytcbnehplilpidaa.readP L n k = if k < F n.data.toList then (Ev.zero, 8) else ((A n.data.toList)[k], 0) := by
  have hn : A n.data.toList ≠ [] := fun e => by rw [e] at hk; simp at hk
  obtain ⟨i, hi, hfi, hnm⟩ := h.find hn
  obtain ⟨p1, p2, p3, p4⟩ := h.at' L[i] (List.getElem_mem hi)
  rw [hnm] at p1 p2 p3 p4
  have hll : L[i].log.length = (A n.data.toList).length - F n.data.toList := by rw [p4]; simp
  unfold Go.Proofs.Ytcbnehplilpidaa.readP
  rw [if_pos h.ok, hfi]
  simp only [List.getElem?_eq_getElem hi]
  by_cases hc : k < F n.data.toList
  · rw [if_pos hc, if_pos (by omega)]
  · rw [if_neg hc, if_neg (by omega), if_neg (by omega)]
    have e1 : L[i].log[((k : Int) - L[i].first).toNat]? = some (layB (A n.data.toList)[k]) := by
      rw [show ((k : Int) - L[i].first).toNat = k - F n.data.toList by omega, p4, List.getElem?_map, List.getElem?_drop, show F n.data.toList + (k - F n.data.toList) = k by omega, List.getElem?_eq_getElem hk]
      rfl
    rw [e1]
    obtain ⟨h1, h2, _⟩ := h.ev _ _ (List.getElem_mem hk)
    have h3 := etake_lay _ h1 h2 []
    rw [List.append_nil] at h3
    show ((takeE (layB (A n.data.toList)[k]).data.toList).1, 0) = _
    rw [show (layB (A n.data.toList)[k]).data.toList = (A n.data.toList)[k].lay from rfl, h3]
end Tryst
