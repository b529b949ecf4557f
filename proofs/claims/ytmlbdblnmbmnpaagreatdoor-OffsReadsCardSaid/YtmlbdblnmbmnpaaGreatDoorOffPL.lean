/- joined: offsets, in plain words. -/
import Derived.Test.YtmlbdblnmbmnpaaGreatDoorTopP
set_option linter.unusedVariables false
set_option linter.unusedSimpArgs false
namespace Tryst
open Go Go.Lib
/-- an offset: a topic, and the number that is next -/
structure OB where
 topic : ByteArray
 next : Int
def oMay (x : OB) : Bool := topicB x.topic.data.toList && decide (0 ≤ x.next)
/-- topics that may be, behind one of a name -/
def okO : Option ByteArray → List OB → Bool
 | _, [] => true
 | p, t :: r => oMay t && ((match p with | none => true | some q => lessB q t.topic) && okO (some t.topic) r)
def checkO (l : List OB) : Bool := decide (l.length ≤ 20) && okO none l
theorem okO_cons {p : Option ByteArray} {t : OB} {r : List OB} : okO p (t :: r) = true ↔ oMay t = true ∧ (∀ q, p = some q → lessB q t.topic = true) ∧ okO (some t.topic) r = true := by
 have e : okO p (t :: r) = (oMay t && ((match p with | none => true | some q => lessB q t.topic) && okO (some t.topic) r)) := by cases p <;> rfl
 rw [e]
 cases p with
 | none => simp
 | some q => simp
def isO (n : ByteArray) (t : OB) : Bool := decide (t.topic.data.toList = n.data.toList)
def findO (l : List OB) (n : ByteArray) : Option Nat := l.findIdx? (isO n)
/-- how many there are ahead of a name -/
def aheadO : List OB → ByteArray → Nat
 | [], _ => 0
 | t :: r, n => if lessB t.topic n = true then aheadO r n + 1 else 0
/-- rising, with one: the document's -/
def withO (l : List OB) (t : OB) : List OB := l.filter (fun x => lessB x.topic t.topic) ++ t :: l.filter (fun x => lessB t.topic x.topic)
theorem okO_above {l : List OB} {p : ByteArray} (h : okO (some p) l = true) : ∀ t ∈ l, lessB p t.topic = true := by
 induction l generalizing p with
 | nil => intro t ht; cases ht
 | cons x r ih =>
  rw [okO_cons] at h
  intro t ht
  rcases List.mem_cons.1 ht with rfl | ht
  ·
   exact h.2.1 p rfl
  ·
   exact lessB_trans (h.2.1 p rfl) (ih h.2.2 t ht)
/-- one that is there is put in its place -/
theorem withO_set {l : List OB} {p : Option ByteArray} (h : okO p l = true) (t : OB) {i : Nat} (hi : i < l.length) (hn : l[i].topic = t.topic) : withO l t = l.set i t := by
 induction l generalizing p i with
 | nil => simp at hi
 | cons x r ih =>
  rw [okO_cons] at h
  have ha := okO_above h.2.2
  cases i with
  | zero =>
   rw [List.getElem_cons_zero] at hn
   have e1 : (x :: r).filter (fun y => lessB y.topic t.topic) = [] := filter_none (fun y hy => by
    rcases List.mem_cons.1 hy with rfl | hy
    ·
     rw [hn]; exact lessB_irrefl _
    ·
     exact lessB_asymm (by rw [← hn]; exact ha y hy))
   have e2 : (x :: r).filter (fun y => lessB t.topic y.topic) = r := by
    rw [List.filter_cons, if_neg (by rw [hn, lessB_irrefl]; simp)]
    exact filter_all (fun y hy => by rw [← hn]; exact ha y hy)
   unfold withO
   rw [e1, e2]
   rfl
  | succ i =>
   rw [List.getElem_cons_succ] at hn
   have hl : lessB x.topic t.topic = true := by rw [← hn]; exact ha _ (List.getElem_mem _)
   have ih2 := ih h.2.2 (by simpa using hi) hn
   unfold withO at ih2 ⊢
   rw [List.filter_cons, if_pos hl, List.filter_cons, if_neg (by rw [lessB_asymm hl]; simp), List.cons_append, ih2, List.set_cons_succ]
/-- one that is not there is put ahead of the first above it -/
theorem withO_ins {l : List OB} {p : Option ByteArray} (h : okO p l = true) (t : OB) (hn : ∀ x ∈ l, x.topic ≠ t.topic) : withO l t = l.take (aheadO l t.topic) ++ t :: l.drop (aheadO l t.topic) := by
 induction l generalizing p with
 | nil => rfl
 | cons x r ih =>
  rw [okO_cons] at h
  have ha := okO_above h.2.2
  have hx := hn x List.mem_cons_self
  have ih2 := ih h.2.2 (fun y hy => hn y (List.mem_cons_of_mem _ hy))
  unfold withO at ih2 ⊢
  rcases lessB_total x.topic t.topic with hl | hl | hl
  ·
   unfold aheadO
   rw [if_pos hl, List.filter_cons, if_pos hl, List.filter_cons, if_neg (by rw [lessB_asymm hl]; simp), List.cons_append, ih2]
   rfl
  ·
   exact absurd hl hx
  ·
   have e1 : (x :: r).filter (fun y => lessB y.topic t.topic) = [] := filter_none (fun y hy => by
    rcases List.mem_cons.1 hy with rfl | hy
    ·
     exact lessB_asymm hl
    ·
     exact lessB_asymm (lessB_trans hl (ha y hy)))
   have e2 : (x :: r).filter (fun y => lessB t.topic y.topic) = x :: r := filter_all (fun y hy => by
    rcases List.mem_cons.1 hy with rfl | hy
    ·
     exact hl
    ·
     exact lessB_trans hl (ha y hy))
   unfold aheadO
   rw [e1, e2, lessB_asymm hl, if_neg (by simp)]
   rfl
theorem findO_some {l : List OB} {n : ByteArray} {i : Nat} (h : findO l n = some i) : ∃ hi : i < l.length, l[i].topic = n := by
 unfold findO at h
 rw [List.findIdx?_eq_some_iff_getElem] at h
 obtain ⟨hi, h1, _⟩ := h
 exact ⟨hi, str_ext (by simpa [isO] using h1)⟩
theorem findO_none {l : List OB} {n : ByteArray} (h : findO l n = none) : ∀ x ∈ l, x.topic ≠ n := by
 unfold findO at h
 rw [List.findIdx?_eq_none_iff] at h
 intro x hx e
 have := h x hx
 simp [isO, e] at this
theorem aheadO_drop {l : List OB} {n : ByteArray} : ∀ {k : Nat}, k ≤ l.length → (∀ (j : Nat) (h : j < l.length), j < k → lessB l[j].topic n = true) → aheadO l n = k + aheadO (l.drop k) n := by
 induction l with
 | nil => intro k hk _; simp at hk; subst hk; rfl
 | cons t r ih =>
  intro k hk h
  cases k with
  | zero => simp
  | succ k =>
   have h0 : lessB t.topic n = true := h 0 (by simp) (by omega)
   have := ih (k := k) (by simpa using hk) (fun j hj hjk => h (j + 1) (by simpa using hj) (by omega))
   have e : aheadO (t :: r) n = aheadO r n + 1 := by
    show (if lessB t.topic n = true then aheadO r n + 1 else 0) = _
    rw [if_pos h0]
   rw [e, this, List.drop_succ_cons]
   omega
theorem aheadO_stop {l : List OB} {n : ByteArray} {k : Nat} (hk : k < l.length) (h : ∀ (j : Nat) (h : j < l.length), j < k → lessB l[j].topic n = true) (hn : lessB l[k].topic n = false) : aheadO l n = k := by
 rw [aheadO_drop (by omega) h, List.drop_eq_getElem_cons hk]
 show k + (if lessB l[k].topic n = true then aheadO (l.drop (k + 1)) n + 1 else 0) = k
 rw [hn]; simp
theorem aheadO_all {l : List OB} {n : ByteArray} (h : ∀ (j : Nat) (h : j < l.length), lessB l[j].topic n = true) : aheadO l n = l.length := by
 rw [aheadO_drop (Nat.le_refl _) (fun j hj _ => h j hj), List.drop_length]; rfl
/-- the number that is next of a topic -/
def getO (l : List OB) (n : ByteArray) : Int := match findO l n with
 | some i => (l[i]?.getD ⟨n, 0⟩).next
 | none => 0
/-- offsets with one, and the error's number -/
def putO (l : List OB) (x : OB) : Option (List OB) × Int :=
 if checkO l = true ∧ oMay x = true then (if (findO l x.topic).isNone = true ∧ 20 ≤ l.length then (none, 6) else (some (withO l x), 0)) else (none, 1)
end Tryst
namespace Tryst
open Go Go.Lib
set_option maxHeartbeats 400000
/-! ### Two puts, either way round -/
theorem getO_eq (l : List OB) (n : ByteArray) : getO l n = ((l.find? (isO n)).map OB.next).getD 0 := by
 unfold getO findO
 induction l with
 | nil => rfl
 | cons x r ih =>
  rw [List.findIdx?_cons, List.find?_cons]
  cases h : isO n x with
  | true => simp
  | false =>
   simp only [Bool.false_eq_true, if_false]
   rw [← ih]
   cases hf : List.findIdx? (isO n) r <;> simp
theorem isO_eq {n : ByteArray} {t : OB} : isO n t = true ↔ t.topic = n := by
 unfold isO
 rw [decide_eq_true_eq]
 exact ⟨fun h => str_ext h, fun h => by rw [h]⟩
theorem putO_cases (l : List OB) (x : OB) : putO l x = (none, 6) ∨ putO l x = (none, 1) ∨ putO l x = (some (withO l x), 0) := by
 unfold putO
 split
 ·
  split
  ·
   exact .inl rfl
  ·
   exact .inr (.inr rfl)
 ·
  exact .inr (.inl rfl)
/-! ### What is unread first -/
/-- is something of a topic unread? -/
def dueO (want : ByteArray → Bool) (l : List OB) (t : Tp) : Bool := decide (max (getO l t.name) t.first < t.first + (t.log.length : Int)) && want t.name
def nextP (want : ByteArray → Bool) (l : List OB) : List Tp → Option (ByteArray × Int)
 | [] => none
 | t :: r => if dueO want l t = true then some (t.name, max (getO l t.name) t.first) else nextP want l r
theorem nextP_at {want : ByteArray → Bool} {l : List OB} : ∀ {T : List Tp} {i : Nat} (hi : i < T.length), (∀ (j : Nat) (h : j < T.length), j < i → dueO want l T[j] = false) → dueO want l T[i] = true → nextP want l T = some (T[i].name, max (getO l T[i].name) T[i].first)
 | [], i, hi, _, _ => by simp at hi
 | t :: r, 0, _, _, h => by
  rw [List.getElem_cons_zero] at h
  show (if _ then _ else _) = _
  rw [if_pos h]; rfl
 | t :: r, i + 1, hi, h0, h => by
  have h1 := h0 0 (by simp) (by omega)
  rw [List.getElem_cons_zero] at h1
  rw [List.getElem_cons_succ] at h
  show (if _ then _ else _) = _
  rw [if_neg (by rw [h1]; simp), List.getElem_cons_succ]
  exact nextP_at (by simpa using hi) (fun j hj hji => h0 (j + 1) (by simpa using hj) (by omega)) h
theorem nextP_none {want : ByteArray → Bool} {l : List OB} : ∀ {T : List Tp}, (∀ t ∈ T, dueO want l t = false) → nextP want l T = none
 | [], _ => rfl
 | t :: r, h => by
  show (if _ then _ else _) = _
  rw [if_neg (by rw [h t List.mem_cons_self]; simp)]
  exact nextP_none fun x hx => h x (List.mem_cons_of_mem _ hx)
theorem nextP_step {want : ByteArray → Bool} {l : List OB} {T : List Tp} {k : Nat} (hk : k < T.length) : nextP want l (T.drop k) = if dueO want l T[k] = true then some (T[k].name, max (getO l T[k].name) T[k].first) else nextP want l (T.drop (k + 1)) := by
 rw [List.drop_eq_getElem_cons hk]; rfl
/-! ### Read one by one -/
theorem okT_lt : ∀ {L : List Tp} {p : Option ByteArray}, okT p L = true → ∀ {i j : Nat} (hj : j < L.length) (hij : i < j), lessB (L[i]'(by omega)).name L[j].name = true
 | [], _, _, _, _, hj, _ => by simp at hj
 | t :: r, p, h, i, j, hj, hij => by
  rw [okT_cons] at h
  cases j with
  | zero => omega
  | succ j =>
   cases i with
   | zero => exact okT_above h.2.2 _ (List.getElem_mem (by simpa using hj))
   | succ i => exact okT_lt h.2.2 (by simpa using hj) (by omega)
/-- is something of it wanted? -/
def wantT (want : ByteArray → Bool) (t : Tp) : Bool := want t.name && decide (0 < t.log.length)
def seenT (want : ByteArray → Bool) (T : List Tp) : List OB := (T.filter (wantT want)).map fun t => ⟨t.name, t.first + (t.log.length : Int)⟩
/-- the offsets when topics ahead of i are read, and k of topic i -/
def readO (want : ByteArray → Bool) (T : List Tp) (i k : Nat) : List OB := seenT want (T.take i) ++ (match T[i]?, k with | some t, k + 1 => [⟨t.name, t.first + ((k : Int) + 1)⟩] | _, _ => [])
theorem readO_zero (want : ByteArray → Bool) (T : List Tp) (i : Nat) : readO want T i 0 = seenT want (T.take i) := by
 unfold readO
 cases T[i]? <;> simp
theorem readO_succ {want : ByteArray → Bool} {T : List Tp} {i : Nat} (hi : i < T.length) (k : Nat) : readO want T i (k + 1) = seenT want (T.take i) ++ [⟨T[i].name, T[i].first + ((k : Int) + 1)⟩] := by
 unfold readO
 rw [List.getElem?_eq_getElem hi]
theorem seen_succ {want : ByteArray → Bool} {T : List Tp} {i : Nat} (hi : i < T.length) : seenT want (T.take (i + 1)) = seenT want (T.take i) ++ (if wantT want T[i] = true then [⟨T[i].name, T[i].first + (T[i].log.length : Int)⟩] else []) := by
 unfold seenT
 rw [List.take_succ_eq_append_getElem hi, List.filter_append, List.map_append]
 congr 1
 rw [List.filter_cons]
 split <;> rfl
theorem readO_next {want : ByteArray → Bool} {T : List Tp} {i : Nat} (hi : i < T.length) (hw : want T[i].name = true) : readO want T i T[i].log.length = readO want T (i + 1) 0 := by
 rw [readO_zero, seen_succ hi]
 rcases Nat.eq_zero_or_pos T[i].log.length with h | h
 ·
  rw [h, readO_zero, if_neg (by unfold wantT; rw [h]; simp), List.append_nil]
 ·
  obtain ⟨k, hk⟩ : ∃ k, T[i].log.length = k + 1 := ⟨T[i].log.length - 1, by omega⟩
  rw [hk, readO_succ hi, if_pos (by unfold wantT; rw [hw, hk]; simp)]
  congr 3
theorem readO_skip {want : ByteArray → Bool} {T : List Tp} {i : Nat} (hi : i < T.length) (hw : want T[i].name = false) : readO want T i 0 = readO want T (i + 1) 0 := by
 rw [readO_zero, readO_zero, seen_succ hi, if_neg (by unfold wantT; rw [hw]; simp), List.append_nil]
theorem seen_mem {want : ByteArray → Bool} {T : List Tp} {x : OB} (h : x ∈ seenT want T) : ∃ j, ∃ hj : j < T.length, x.topic = T[j].name ∧ x.next = T[j].first + (T[j].log.length : Int) ∧ wantT want T[j] = true := by
 unfold seenT at h
 obtain ⟨t, ht, rfl⟩ := List.mem_map.1 h
 rw [List.mem_filter] at ht
 obtain ⟨j, hj, rfl⟩ := List.getElem_of_mem ht.1
 exact ⟨j, hj, rfl, rfl, ht.2⟩
theorem seen_less {want : ByteArray → Bool} {T : List Tp} {p : Option ByteArray} (h : okT p T = true) {i : Nat} (hi : i < T.length) : ∀ x ∈ seenT want (T.take i), lessB x.topic T[i].name = true := by
 intro x hx
 obtain ⟨j, hj, h1, _⟩ := seen_mem hx
 rw [List.length_take] at hj
 rw [h1, List.getElem_take]
 exact okT_lt h hi (by omega)
theorem seen_get {want : ByteArray → Bool} : ∀ {T : List Tp} {p : Option ByteArray}, okT p T = true → ∀ {j : Nat} (hj : j < T.length), getO (seenT want T) T[j].name = if wantT want T[j] = true then T[j].first + (T[j].log.length : Int) else 0
 | [], _, _, _, hj => by simp at hj
 | t :: r, p, h, j, hj => by
  rw [okT_cons] at h
  have ha := okT_above h.2.2
  rw [getO_eq]
  cases j with
  | zero =>
   rw [List.getElem_cons_zero]
   unfold seenT
   rw [List.filter_cons]
   split
   ·
    rw [List.map_cons, List.find?_cons, show isO t.name (⟨t.name, t.first + (t.log.length : Int)⟩ : OB) = true from isO_eq.2 rfl]; rfl
   ·
    rw [show List.find? (isO t.name) ((r.filter (wantT want)).map fun t => (⟨t.name, t.first + (t.log.length : Int)⟩ : OB)) = none from ?_]
    ·
     rfl
    ·
     rw [List.find?_eq_none]
     intro a ha2 hq
     obtain ⟨s, hs, rfl⟩ := List.mem_map.1 ha2
     have h5 := ha s (List.mem_filter.1 hs).1
     have h6 : s.name = t.name := isO_eq.1 hq
     rw [h6, lessB_irrefl] at h5
     cases h5
  | succ j =>
   rw [List.getElem_cons_succ]
   have ih := seen_get (want := want) h.2.2 (j := j) (by simpa using hj)
   rw [getO_eq] at ih
   rw [← ih]
   unfold seenT
   rw [List.filter_cons]
   split
   ·
    rw [List.map_cons, List.find?_cons]
    have h5 : isO (r[j]'(by simpa using hj)).name (⟨t.name, t.first + (t.log.length : Int)⟩ : OB) = false := by
     cases h6 : isO (r[j]'(by simpa using hj)).name (⟨t.name, t.first + (t.log.length : Int)⟩ : OB) with
     | false => rfl
     | true =>
      have h7 : t.name = _ := isO_eq.1 h6
      have h8 := ha _ (List.getElem_mem (by simpa using hj : j < r.length))
      rw [← h7, lessB_irrefl] at h8
      cases h8
    rw [h5]
   ·
    rfl
theorem getO_app (l : List OB) (x : OB) {n : ByteArray} (h : ∀ y ∈ l, y.topic ≠ n) (hx : x.topic = n) : getO (l ++ [x]) n = x.next := by
 rw [getO_eq, List.find?_append, List.find?_eq_none.2 (fun a ha hq => h a ha (isO_eq.1 hq)), List.find?_cons, isO_eq.2 hx]
 rfl
theorem getO_app_ne (l : List OB) (x : OB) {n : ByteArray} (hx : x.topic ≠ n) : getO (l ++ [x]) n = getO l n := by
 have h5 : isO n x = false := by
  cases h6 : isO n x with
  | false => rfl
  | true => exact absurd (isO_eq.1 h6) hx
 rw [getO_eq, getO_eq, List.find?_append, List.find?_cons, h5]
 cases List.find? (isO n) l <;> rfl
theorem getO_none (l : List OB) {n : ByteArray} (h : ∀ y ∈ l, y.topic ≠ n) : getO l n = 0 := by
 rw [getO_eq, List.find?_eq_none.2 (fun a ha hq => h a ha (isO_eq.1 hq))]
 rfl
theorem less_ne {a b : ByteArray} (h : lessB a b = true) : a ≠ b := fun e => by rw [e, lessB_irrefl] at h; cases h
theorem okO_seen {want : ByteArray → Bool} : ∀ {T : List Tp} {p : Option ByteArray}, okT p T = true → okO p (seenT want T) = true
 | [], p, _ => by cases p <;> rfl
 | t :: r, p, h => by
  have h0 := h
  rw [okT_cons] at h
  have ih := okO_seen (want := want) h.2.2
  have hm := h.1
  unfold tMay at hm
  simp only [Bool.and_eq_true, decide_eq_true_eq] at hm
  unfold seenT at ih ⊢
  rw [List.filter_cons]
  split
  ·
   rw [List.map_cons, okO_cons]
   refine ⟨?_, h.2.1, ih⟩
   unfold oMay
   rw [hm.1, decide_eq_true (by have := hm.2.1; show 0 ≤ t.first + _; omega)]
   rfl
  ·
   -- the topic is left out
   have key : ∀ {l : List OB} {p : Option ByteArray}, okO (some t.name) l = true → (∀ q, p = some q → lessB q t.name = true) → okO p l = true := by
    intro l p hl hp
    cases l with
    | nil => cases p <;> rfl
    | cons y s =>
     rw [okO_cons] at hl ⊢
     exact ⟨hl.1, fun q hq => lessB_trans (hp q hq) (hl.2.1 _ rfl), hl.2.2⟩
   exact key ih h.2.1
theorem okT_take : ∀ {T : List Tp} {p : Option ByteArray}, okT p T = true → ∀ i, okT p (T.take i) = true
 | [], p, h, i => by rw [List.take_nil]; exact h
 | t :: r, p, h, 0 => by cases p <;> rfl
 | t :: r, p, h, i + 1 => by
  rw [okT_cons] at h
  rw [List.take_succ_cons, okT_cons]
  exact ⟨h.1, h.2.1, okT_take h.2.2 i⟩
theorem okO_app {x : OB} (hx : oMay x = true) : ∀ {l : List OB} {p : Option ByteArray}, okO p l = true → (∀ y ∈ l, lessB y.topic x.topic = true) → (∀ q, p = some q → lessB q x.topic = true) → okO p (l ++ [x]) = true
 | [], p, _, _, hp => by rw [List.nil_append, okO_cons]; exact ⟨hx, hp, rfl⟩
 | y :: s, p, h, hl, hp => by
  rw [okO_cons] at h
  rw [List.cons_append, okO_cons]
  exact ⟨h.1, h.2.1, okO_app hx h.2.2 (fun z hz => hl z (List.mem_cons_of_mem _ hz)) (fun q hq => by cases hq; exact hl y List.mem_cons_self)⟩
theorem seen_len (want : ByteArray → Bool) (T : List Tp) (i : Nat) : (seenT want (T.take i)).length ≤ i := by
 unfold seenT
 rw [List.length_map]
 exact Nat.le_trans (List.length_filter_le _ _) (by rw [List.length_take]; omega)
theorem topic_may {T : List Tp} {p : Option ByteArray} (h : okT p T = true) {i : Nat} (hi : i < T.length) : topicB T[i].name.data.toList = true ∧ 0 ≤ T[i].first ∧ T[i].log.length ≤ 100 ∧ T[i].first ≤ 1099511627775 - T[i].log.length := by
 have hm := okT_mem h _ (List.getElem_mem hi)
 unfold tMay at hm
 simp only [Bool.and_eq_true, decide_eq_true_eq] at hm
 exact ⟨hm.1, hm.2.1, hm.2.2.1, hm.2.2.2.1⟩
theorem due_done {want : ByteArray → Bool} {t : Tp} {g : Int} (hg : g = if wantT want t = true then t.first + (t.log.length : Int) else 0) : (decide (max g t.first < t.first + (t.log.length : Int)) && want t.name) = false := by
 unfold wantT at hg
 cases hw : want t.name with
 | false => rw [Bool.and_false]
 | true =>
  rw [hw, Bool.true_and] at hg
  rw [Bool.and_true, decide_eq_false_iff_not]
  by_cases h : 0 < t.log.length
  ·
   rw [decide_eq_true h, if_pos rfl] at hg; omega
  ·
   omega
section
variable {want : ByteArray → Bool} {T : List Tp} (hT : topsMay T = true)
include hT
theorem topsMay_ok : okT none T = true ∧ T.length ≤ 20 := by
 unfold topsMay at hT
 rw [Bool.and_eq_true, decide_eq_true_eq] at hT
 exact ⟨hT.2, hT.1⟩
theorem readO_check {i k : Nat} (hi : i < T.length) : checkO (readO want T i k) = true := by
 obtain ⟨h1, h2⟩ := topsMay_ok hT
 have h3 := okO_seen (want := want) (okT_take h1 i)
 have h4 := seen_len want T i
 unfold checkO
 cases k with
 | zero => rw [readO_zero, h3, decide_eq_true (by omega)]; rfl
 | succ k =>
  obtain ⟨q1, q2, _⟩ := topic_may h1 hi
  rw [readO_succ hi, okO_app (by unfold oMay; rw [q1, decide_eq_true (by show 0 ≤ T[i].first + _; omega)]; rfl) h3 (seen_less h1 hi) (fun q hq => by cases hq), decide_eq_true (by rw [List.length_append]; simp; omega)]
  rfl
theorem readO_check_end : checkO (readO want T T.length 0) = true := by
 obtain ⟨h1, h2⟩ := topsMay_ok hT
 have h3 := okO_seen (want := want) (okT_take h1 T.length)
 have h4 := seen_len want T T.length
 unfold checkO
 rw [readO_zero, h3, decide_eq_true (by omega)]; rfl
theorem readO_get {i k : Nat} (hi : i < T.length) : getO (readO want T i k) T[i].name = if k = 0 then 0 else T[i].first + (k : Int) := by
 obtain ⟨h1, h2⟩ := topsMay_ok hT
 have h5 : ∀ y ∈ seenT want (T.take i), y.topic ≠ T[i].name := fun y hy => less_ne (seen_less h1 hi y hy)
 cases k with
 | zero => rw [readO_zero, getO_none _ h5]; rfl
 | succ k => rw [readO_succ hi, getO_app _ _ h5 rfl, if_neg (by omega)]; simp
theorem readO_get_before {i j k : Nat} (hi : i < T.length) (hj : j < i) : getO (readO want T i k) (T[j]'(by omega)).name = if wantT want (T[j]'(by omega)) = true then (T[j]'(by omega)).first + ((T[j]'(by omega)).log.length : Int) else 0 := by
 obtain ⟨h1, h2⟩ := topsMay_ok hT
 have h6 := seen_get (want := want) (okT_take h1 i) (j := j) (by rw [List.length_take]; omega)
 rw [List.getElem_take] at h6
 cases k with
 | zero => rw [readO_zero, h6]
 | succ k => rw [readO_succ hi, getO_app_ne _ _ (fun e => less_ne (okT_lt h1 hi hj) e.symm), h6]
/-- the next one is told -/
theorem read_next {i k : Nat} (hi : i < T.length) (hw : want T[i].name = true) (hk : k < T[i].log.length) : nextP want (readO want T i k) T = some (T[i].name, T[i].first + (k : Int)) := by
 have hg := readO_get (want := want) (k := k) hT hi
 have h0 := (topic_may (topsMay_ok hT).1 hi).2.1
 have hm : max (getO (readO want T i k) T[i].name) T[i].first = T[i].first + (k : Int) := by
  rw [hg]
  split <;> omega
 have hdue : dueO want (readO want T i k) T[i] = true := by
  unfold dueO
  rw [hm, hw, decide_eq_true (by omega)]
  rfl
 rw [nextP_at hi (fun j hj hji => ?_) hdue, hm]
 unfold dueO
 exact due_done (readO_get_before (want := want) (k := k) hT hi hji)
/-- and put -/
theorem read_put {i k : Nat} (hi : i < T.length) (hk : k < T[i].log.length) : putO (readO want T i k) ⟨T[i].name, T[i].first + (k : Int) + 1⟩ = (some (readO want T i (k + 1)), 0) := by
 obtain ⟨h1, h2⟩ := topsMay_ok hT
 obtain ⟨q1, q2, _⟩ := topic_may h1 hi
 have hs := seen_less (want := want) h1 hi
 have hlen := seen_len want T i
 have e : withO (readO want T i k) ⟨T[i].name, T[i].first + (k : Int) + 1⟩ = readO want T i (k + 1) := by
  rw [readO_succ hi]
  unfold withO
  have f1 : (seenT want (T.take i)).filter (fun x => lessB x.topic T[i].name) = seenT want (T.take i) := filter_all hs
  have f2 : (seenT want (T.take i)).filter (fun x => lessB T[i].name x.topic) = [] := filter_none fun x hx => lessB_asymm (hs x hx)
  cases k with
  | zero => rw [readO_zero, f1, f2]; simp
  | succ k =>
   rw [readO_succ hi, List.filter_append, List.filter_append, f1, f2]
   simp only [List.filter_cons, List.filter_nil, lessB_irrefl, Bool.false_eq_true, if_false, List.append_nil, List.nil_append]
   congr 3
   omega
 unfold putO
 rw [if_pos ⟨readO_check hT hi, by unfold oMay; rw [q1, decide_eq_true (by show 0 ≤ T[i].first + _ + 1; omega)]; rfl⟩, if_neg, e]
 rintro ⟨hn, hl⟩
 cases k with
 | zero => rw [readO_zero] at hl; omega
 | succ k =>
  have := findO_none (l := readO want T i (k + 1)) (n := T[i].name) (by simpa using hn) ⟨T[i].name, T[i].first + ((k : Int) + 1)⟩ (by rw [readO_succ hi]; simp)
  exact this rfl
/-- at the end nothing is unread -/
theorem read_end : nextP want (readO want T T.length 0) T = none := by
 refine nextP_none fun t ht => ?_
 obtain ⟨j, hj, rfl⟩ := List.getElem_of_mem ht
 have h6 := seen_get (want := want) (topsMay_ok hT).1 hj
 unfold dueO
 refine due_done ?_
 rw [readO_zero, List.take_length, h6]
end
end Tryst
