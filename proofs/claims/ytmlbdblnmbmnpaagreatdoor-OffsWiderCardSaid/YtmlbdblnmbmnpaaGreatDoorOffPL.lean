/- joined: offsets, in plain words. -/
import Derived.Test.YtmlbdblnmbmnpaaGreatDoorTopP
set_option linter.unusedVariables false
set_option linter.unusedSimpArgs false
namespace Tryst
open Go Go.Lib
/-- an offset: a topic, and the number that is next -/
structure OB where
 topic : ByteArray
 next : Int
def oMay (x : OB) : Bool := topicB x.topic.data.toList && decide (0 ≤ x.next)
/-- topics that may be, behind one of a name -/
def okO : Option ByteArray → List OB → Bool
 | _, [] => true
 | p, t :: r => oMay t && ((match p with | none => true | some q => lessB q t.topic) && okO (some t.topic) r)
def checkO (l : List OB) : Bool := decide (l.length ≤ 20) && okO none l
theorem okO_cons {p : Option ByteArray} {t : OB} {r : List OB} : okO p (t :: r) = true ↔ oMay t = true ∧ (∀ q, p = some q → lessB q t.topic = true) ∧ okO (some t.topic) r = true := by
 have e : okO p (t :: r) = (oMay t && ((match p with | none => true | some q => lessB q t.topic) && okO (some t.topic) r)) := by cases p <;> rfl
 rw [e]
 cases p with
 | none => simp
 | some q => simp
def isO (n : ByteArray) (t : OB) : Bool := decide (t.topic.data.toList = n.data.toList)
def findO (l : List OB) (n : ByteArray) : Option Nat := l.findIdx? (isO n)
/-- how many there are ahead of a name -/
def aheadO : List OB → ByteArray → Nat
 | [], _ => 0
 | t :: r, n => if lessB t.topic n = true then aheadO r n + 1 else 0
/-- rising, with one: the document's -/
def withO (l : List OB) (t : OB) : List OB := l.filter (fun x => lessB x.topic t.topic) ++ t :: l.filter (fun x => lessB t.topic x.topic)
theorem okO_above {l : List OB} {p : ByteArray} (h : okO (some p) l = true) : ∀ t ∈ l, lessB p t.topic = true := by
 induction l generalizing p with
 | nil => intro t ht; cases ht
 | cons x r ih =>
  rw [okO_cons] at h
  intro t ht
  rcases List.mem_cons.1 ht with rfl | ht
  ·
   exact h.2.1 p rfl
  ·
   exact lessB_trans (h.2.1 p rfl) (ih h.2.2 t ht)
/-- one that is there is put in its place -/
theorem withO_set {l : List OB} {p : Option ByteArray} (h : okO p l = true) (t : OB) {i : Nat} (hi : i < l.length) (hn : l[i].topic = t.topic) : withO l t = l.set i t := by
 induction l generalizing p i with
 | nil => simp at hi
 | cons x r ih =>
  rw [okO_cons] at h
  have ha := okO_above h.2.2
  cases i with
  | zero =>
   rw [List.getElem_cons_zero] at hn
   have e1 : (x :: r).filter (fun y => lessB y.topic t.topic) = [] := filter_none (fun y hy => by
    rcases List.mem_cons.1 hy with rfl | hy
    ·
     rw [hn]; exact lessB_irrefl _
    ·
     exact lessB_asymm (by rw [← hn]; exact ha y hy))
   have e2 : (x :: r).filter (fun y => lessB t.topic y.topic) = r := by
    rw [List.filter_cons, if_neg (by rw [hn, lessB_irrefl]; simp)]
    exact filter_all (fun y hy => by rw [← hn]; exact ha y hy)
   unfold withO
   rw [e1, e2]
   rfl
  | succ i =>
   rw [List.getElem_cons_succ] at hn
   have hl : lessB x.topic t.topic = true := by rw [← hn]; exact ha _ (List.getElem_mem _)
   have ih2 := ih h.2.2 (by simpa using hi) hn
   unfold withO at ih2 ⊢
   rw [List.filter_cons, if_pos hl, List.filter_cons, if_neg (by rw [lessB_asymm hl]; simp), List.cons_append, ih2, List.set_cons_succ]
/-- one that is not there is put ahead of the first above it -/
theorem withO_ins {l : List OB} {p : Option ByteArray} (h : okO p l = true) (t : OB) (hn : ∀ x ∈ l, x.topic ≠ t.topic) : withO l t = l.take (aheadO l t.topic) ++ t :: l.drop (aheadO l t.topic) := by
 induction l generalizing p with
 | nil => rfl
 | cons x r ih =>
  rw [okO_cons] at h
  have ha := okO_above h.2.2
  have hx := hn x List.mem_cons_self
  have ih2 := ih h.2.2 (fun y hy => hn y (List.mem_cons_of_mem _ hy))
  unfold withO at ih2 ⊢
  rcases lessB_total x.topic t.topic with hl | hl | hl
  ·
   unfold aheadO
   rw [if_pos hl, List.filter_cons, if_pos hl, List.filter_cons, if_neg (by rw [lessB_asymm hl]; simp), List.cons_append, ih2]
   rfl
  ·
   exact absurd hl hx
  ·
   have e1 : (x :: r).filter (fun y => lessB y.topic t.topic) = [] := filter_none (fun y hy => by
    rcases List.mem_cons.1 hy with rfl | hy
    ·
     exact lessB_asymm hl
    ·
     exact lessB_asymm (lessB_trans hl (ha y hy)))
   have e2 : (x :: r).filter (fun y => lessB t.topic y.topic) = x :: r := filter_all (fun y hy => by
    rcases List.mem_cons.1 hy with rfl | hy
    ·
     exact hl
    ·
     exact lessB_trans hl (ha y hy))
   unfold aheadO
   rw [e1, e2, lessB_asymm hl, if_neg (by simp)]
   rfl
theorem findO_some {l : List OB} {n : ByteArray} {i : Nat} (h : findO l n = some i) : ∃ hi : i < l.length, l[i].topic = n := by
 unfold findO at h
 rw [List.findIdx?_eq_some_iff_getElem] at h
 obtain ⟨hi, h1, _⟩ := h
 exact ⟨hi, str_ext (by simpa [isO] using h1)⟩
theorem findO_none {l : List OB} {n : ByteArray} (h : findO l n = none) : ∀ x ∈ l, x.topic ≠ n := by
 unfold findO at h
 rw [List.findIdx?_eq_none_iff] at h
 intro x hx e
 have := h x hx
 simp [isO, e] at this
theorem aheadO_drop {l : List OB} {n : ByteArray} : ∀ {k : Nat}, k ≤ l.length → (∀ (j : Nat) (h : j < l.length), j < k → lessB l[j].topic n = true) → aheadO l n = k + aheadO (l.drop k) n := by
 induction l with
 | nil => intro k hk _; simp at hk; subst hk; rfl
 | cons t r ih =>
  intro k hk h
  cases k with
  | zero => simp
  | succ k =>
   have h0 : lessB t.topic n = true := h 0 (by simp) (by omega)
   have := ih (k := k) (by simpa using hk) (fun j hj hjk => h (j + 1) (by simpa using hj) (by omega))
   have e : aheadO (t :: r) n = aheadO r n + 1 := by
    show (if lessB t.topic n = true then aheadO r n + 1 else 0) = _
    rw [if_pos h0]
   rw [e, this, List.drop_succ_cons]
   omega
theorem aheadO_stop {l : List OB} {n : ByteArray} {k : Nat} (hk : k < l.length) (h : ∀ (j : Nat) (h : j < l.length), j < k → lessB l[j].topic n = true) (hn : lessB l[k].topic n = false) : aheadO l n = k := by
 rw [aheadO_drop (by omega) h, List.drop_eq_getElem_cons hk]
 show k + (if lessB l[k].topic n = true then aheadO (l.drop (k + 1)) n + 1 else 0) = k
 rw [hn]; simp
theorem aheadO_all {l : List OB} {n : ByteArray} (h : ∀ (j : Nat) (h : j < l.length), lessB l[j].topic n = true) : aheadO l n = l.length := by
 rw [aheadO_drop (Nat.le_refl _) (fun j hj _ => h j hj), List.drop_length]; rfl
/-- the number that is next of a topic -/
def getO (l : List OB) (n : ByteArray) : Int := match findO l n with
 | some i => (l[i]?.getD ⟨n, 0⟩).next
 | none => 0
/-- offsets with one, and the error's number -/
def putO (l : List OB) (x : OB) : Option (List OB) × Int :=
 if checkO l = true ∧ oMay x = true then (if (findO l x.topic).isNone = true ∧ 20 ≤ l.length then (none, 6) else (some (withO l x), 0)) else (none, 1)
end Tryst
namespace Tryst
open Go Go.Lib
set_option maxHeartbeats 400000
/-! ### Two puts, either way round -/
/-! ### What is unread first -/
/-- is something of a topic unread? -/
def dueO (want : ByteArray → Bool) (l : List OB) (t : Tp) : Bool := decide (max (getO l t.name) t.first < t.first + (t.log.length : Int)) && want t.name
def nextP (want : ByteArray → Bool) (l : List OB) : List Tp → Option (ByteArray × Int)
 | [] => none
 | t :: r => if dueO want l t = true then some (t.name, max (getO l t.name) t.first) else nextP want l r
theorem nextP_step {want : ByteArray → Bool} {l : List OB} {T : List Tp} {k : Nat} (hk : k < T.length) : nextP want l (T.drop k) = if dueO want l T[k] = true then some (T[k].name, max (getO l T[k].name) T[k].first) else nextP want l (T.drop (k + 1)) := by
 rw [List.drop_eq_getElem_cons hk]; rfl
/-! ### Read one by one -/
section
variable {want : ByteArray → Bool} {T : List Tp} (hT : topsMay T = true)
include hT
theorem topsMay_ok : okT none T = true ∧ T.length ≤ 20 := by
 unfold topsMay at hT
 rw [Bool.and_eq_true, decide_eq_true_eq] at hT
 exact ⟨hT.2, hT.1⟩
end
end Tryst
