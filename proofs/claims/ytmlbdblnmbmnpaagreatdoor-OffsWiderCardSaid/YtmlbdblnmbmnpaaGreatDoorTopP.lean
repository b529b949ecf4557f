/- Topics, in plain words; nothing of the program. -/
import Derived.Test.YtmlbdblnmbmnpaaGreatDoorFacts
import Derived.Test.YtmlbdblnmbmnpaaGreatDoorDraws
set_option linter.unusedVariables false
set_option linter.unusedSimpArgs false
namespace Tryst
open Go Go.Lib
/-- a topic, wherever its log lies -/
structure Tp where
 name : ByteArray
 first : Int
 log : List ByteArray
theorem Tp.ext' {a b : Tp} (h1 : a.name = b.name) (h2 : a.first = b.first) (h3 : a.log = b.log) : a = b := by cases a; cases b; simp_all
/-- are octets those of an event of a topic, all of them? -/
def ofB (s n : ByteArray) : Bool := decide ((takeE s.data.toList).2.2 = 0) && (decide ((takeE s.data.toList).2.1 = s.size) && decide ((takeE s.data.toList).1.topic = n.data.toList))
def tMay (t : Tp) : Bool := topicB t.name.data.toList && (decide (0 ≤ t.first) && (decide (t.log.length ≤ 100) && (decide (t.first ≤ 1099511627775 - t.log.length) && t.log.all (fun s => ofB s t.name))))
def lessB (a b : ByteArray) : Bool := Op.bytesLess a.data.toList b.data.toList
/-- topics that may be, behind one of a name -/
def okT : Option ByteArray → List Tp → Bool
 | _, [] => true
 | p, t :: r => tMay t && ((match p with | none => true | some q => lessB q t.name) && okT (some t.name) r)
def topsMay (l : List Tp) : Bool := decide (l.length ≤ 20) && okT none l
theorem okT_cons {p : Option ByteArray} {t : Tp} {r : List Tp} : okT p (t :: r) = true ↔ tMay t = true ∧ (∀ q, p = some q → lessB q t.name = true) ∧ okT (some t.name) r = true := by
 have e : okT p (t :: r) = (tMay t && ((match p with | none => true | some q => lessB q t.name) && okT (some t.name) r)) := by cases p <;> rfl
 rw [e]
 cases p with
 | none => simp
 | some q => simp
def isT (n : ByteArray) (t : Tp) : Bool := decide (t.name.data.toList = n.data.toList)
def findT (l : List Tp) (n : ByteArray) : Option Nat := l.findIdx? (isT n)
/-- how many there are ahead of a name -/
def aheadT : List Tp → ByteArray → Nat
 | [], _ => 0
 | t :: r, n => if lessB t.name n = true then aheadT r n + 1 else 0
/-- rising, with one: the document's -/
def withT (l : List Tp) (t : Tp) : List Tp := l.filter (fun x => lessB x.name t.name) ++ t :: l.filter (fun x => lessB t.name x.name)
theorem lessB_trans {a b c : ByteArray} (h1 : lessB a b = true) (h2 : lessB b c = true) : lessB a c = true := less_trans h1 h2
theorem lessB_irrefl (a : ByteArray) : lessB a a = false := less_irrefl _
theorem lessB_asymm {a b : ByteArray} (h : lessB a b = true) : lessB b a = false := less_asymm h
theorem lessB_total (a b : ByteArray) : lessB a b = true ∨ a = b ∨ lessB b a = true := by
 rcases less_total a.data.toList b.data.toList with h | h | h
 ·
  exact .inl h
 ·
  exact .inr (.inl (str_ext h))
 ·
  exact .inr (.inr h)
theorem okT_above {l : List Tp} {p : ByteArray} (h : okT (some p) l = true) : ∀ t ∈ l, lessB p t.name = true := by
 induction l generalizing p with
 | nil => intro t ht; cases ht
 | cons x r ih =>
  rw [okT_cons] at h
  intro t ht
  rcases List.mem_cons.1 ht with rfl | ht
  ·
   exact h.2.1 p rfl
  ·
   exact lessB_trans (h.2.1 p rfl) (ih h.2.2 t ht)
theorem okT_mem {l : List Tp} {p : Option ByteArray} (h : okT p l = true) : ∀ t ∈ l, tMay t = true := by
 induction l generalizing p with
 | nil => intro t ht; cases ht
 | cons x r ih =>
  rw [okT_cons] at h
  intro t ht
  rcases List.mem_cons.1 ht with rfl | ht
  ·
   exact h.1
  ·
   exact ih h.2.2 t ht
theorem filter_all {α : Type} {p : α → Bool} {l : List α} (h : ∀ x ∈ l, p x = true) : l.filter p = l := List.filter_eq_self.2 h
theorem filter_none {α : Type} {p : α → Bool} {l : List α} (h : ∀ x ∈ l, p x = false) : l.filter p = [] := by
 rw [List.filter_eq_nil_iff]; intro x hx; rw [h x hx]; simp
/-- one that is there is put in its place -/
theorem withT_set {l : List Tp} {p : Option ByteArray} (h : okT p l = true) (t : Tp) {i : Nat} (hi : i < l.length) (hn : l[i].name = t.name) : withT l t = l.set i t := by
 induction l generalizing p i with
 | nil => simp at hi
 | cons x r ih =>
  rw [okT_cons] at h
  have ha := okT_above h.2.2
  cases i with
  | zero =>
   rw [List.getElem_cons_zero] at hn
   have e1 : (x :: r).filter (fun y => lessB y.name t.name) = [] := filter_none (fun y hy => by
    rcases List.mem_cons.1 hy with rfl | hy
    ·
     rw [hn]; exact lessB_irrefl _
    ·
     exact lessB_asymm (by rw [← hn]; exact ha y hy))
   have e2 : (x :: r).filter (fun y => lessB t.name y.name) = r := by
    rw [List.filter_cons, if_neg (by rw [hn, lessB_irrefl]; simp)]
    exact filter_all (fun y hy => by rw [← hn]; exact ha y hy)
   unfold withT
   rw [e1, e2]
   rfl
  | succ i =>
   rw [List.getElem_cons_succ] at hn
   have hl : lessB x.name t.name = true := by rw [← hn]; exact ha _ (List.getElem_mem _)
   have ih2 := ih h.2.2 (by simpa using hi) hn
   unfold withT at ih2 ⊢
   rw [List.filter_cons, if_pos hl, List.filter_cons, if_neg (by rw [lessB_asymm hl]; simp), List.cons_append, ih2, List.set_cons_succ]
/-- one that is not there is put ahead of the first above it -/
theorem withT_ins {l : List Tp} {p : Option ByteArray} (h : okT p l = true) (t : Tp) (hn : ∀ x ∈ l, x.name ≠ t.name) : withT l t = l.take (aheadT l t.name) ++ t :: l.drop (aheadT l t.name) := by
 induction l generalizing p with
 | nil => rfl
 | cons x r ih =>
  rw [okT_cons] at h
  have ha := okT_above h.2.2
  have hx := hn x List.mem_cons_self
  have ih2 := ih h.2.2 (fun y hy => hn y (List.mem_cons_of_mem _ hy))
  unfold withT at ih2 ⊢
  rcases lessB_total x.name t.name with hl | hl | hl
  ·
   unfold aheadT
   rw [if_pos hl, List.filter_cons, if_pos hl, List.filter_cons, if_neg (by rw [lessB_asymm hl]; simp), List.cons_append, ih2]
   rfl
  ·
   exact absurd hl hx
  ·
   have e1 : (x :: r).filter (fun y => lessB y.name t.name) = [] := filter_none (fun y hy => by
    rcases List.mem_cons.1 hy with rfl | hy
    ·
     exact lessB_asymm hl
    ·
     exact lessB_asymm (lessB_trans hl (ha y hy)))
   have e2 : (x :: r).filter (fun y => lessB t.name y.name) = x :: r := filter_all (fun y hy => by
    rcases List.mem_cons.1 hy with rfl | hy
    ·
     exact hl
    ·
     exact lessB_trans hl (ha y hy))
   unfold aheadT
   rw [e1, e2, lessB_asymm hl, if_neg (by simp)]
   rfl
theorem findT_some {l : List Tp} {n : ByteArray} {i : Nat} (h : findT l n = some i) : ∃ hi : i < l.length, l[i].name = n := by
 unfold findT at h
 rw [List.findIdx?_eq_some_iff_getElem] at h
 obtain ⟨hi, h1, _⟩ := h
 exact ⟨hi, str_ext (by simpa [isT] using h1)⟩
theorem findT_none {l : List Tp} {n : ByteArray} (h : findT l n = none) : ∀ x ∈ l, x.name ≠ n := by
 unfold findT at h
 rw [List.findIdx?_eq_none_iff] at h
 intro x hx e
 have := h x hx
 simp [isT, e] at this
end Tryst
