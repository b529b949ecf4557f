/- Plain facts on events: names, fields, what may be, a field that is put or had, the octets; nothing of the program. -/
import Derived.Test.YtfohdjgalmodbaaOrd
set_option linter.unusedVariables false
set_option linter.unusedSimpArgs false
namespace Tryst
open Go Go.Lib
/-! ### Names -/
def partC (c : UInt8) : Bool := (97 ≤ c.toNat && c.toNat ≤ 122) || (48 ≤ c.toNat && c.toNat ≤ 57) || c.toNat == 95
def partB (s : List UInt8) : Bool := !s.isEmpty && s.all partC
/-- what is between the dots -/
def dots : List UInt8 → List (List UInt8)
  | [] => [[]]
  | c :: l => if c = 46 then [] :: dots l else match dots l with | [] => [[c]] | p :: ps => (c :: p) :: ps
theorem dots_cons (c : UInt8) (l : List UInt8) : dots (c :: l) = if c = 46 then [] :: dots l else match dots l with | [] => [[c]] | p :: ps => (c :: p) :: ps := rfl
theorem dots_ne (l : List UInt8) : dots l ≠ [] := by
  cases l with
  | nil => simp [dots]
  | cons c l => rw [dots_cons]; split <;> (try split) <;> simp
theorem dots_none (l : List UInt8) (h : 46 ∉ l) : dots l = [l] := by
  induction l with
  | nil => rfl
  | cons c l ih =>
    have h1 : c ≠ 46 := fun e => h (by simp [e])
    rw [dots_cons, if_neg h1, ih (fun e => h (by simp [e]))]
theorem dots_cut (p r : List UInt8) (h : 46 ∉ p) : dots (p ++ 46 :: r) = p :: dots r := by
  induction p with
  | nil => rw [List.nil_append, dots_cons, if_pos rfl]
  | cons c p ih =>
    have h1 : c ≠ 46 := fun e => h (by simp [e])
    rw [List.cons_append, dots_cons, if_neg h1, ih (fun e => h (by simp [e]))]
def topicB (s : List UInt8) : Bool := decide (s.length ≤ 40) && decide ((dots s).length ≤ 8) && (dots s).all partB
def fieldB (s : List UInt8) : Bool := decide (s.length ≤ 16) && !s.contains 46 && topicB s
/-- so many parts at the most, and each is one -/
def allF (k : Nat) (s : List UInt8) : Bool := decide ((dots s).length ≤ k) && (dots s).all partB
theorem allF_none {k : Nat} {s : List UInt8} (h : 46 ∉ s) : allF (k + 1) s = partB s := by
  unfold allF; rw [dots_none s h]; simp
theorem allF_cut {k : Nat} {p r : List UInt8} (h : 46 ∉ p) : allF (k + 1) (p ++ 46 :: r) = (partB p && allF k r) := by
  unfold allF; rw [dots_cut p r h]
  simp only [List.length_cons, List.all_cons, Nat.add_le_add_iff_right]
  cases partB p <;> simp
theorem allF_zero (s : List UInt8) : allF 0 s = false := by
  unfold allF
  have := List.length_pos_iff.2 (dots_ne s)
  rw [decide_eq_false (by omega)]; rfl
theorem topicB_eq (s : List UInt8) : topicB s = (decide (s.length ≤ 40) && allF 8 s) := by
  unfold topicB allF; rw [Bool.and_assoc]
/-! ### Fields and events -/
structure Fld where
  name : List UInt8
  v : V
structure Ev where
  topic : List UInt8
  prod : List UInt8
  seq : Nat
  l : List Fld
theorem Fld.ext' {a b : Fld} (h1 : a.name = b.name) (h2 : a.v = b.v) : a = b := by cases a; cases b; simp_all
theorem Ev.ext' {a b : Ev} (h1 : a.topic = b.topic) (h2 : a.prod = b.prod) (h3 : a.seq = b.seq) (h4 : a.l = b.l) : a = b := by cases a; cases b; simp_all
def vMay (v : V) : Bool := decide v.May
/-- fields that may be, behind one of a name -/
def okF : Option (List UInt8) → List Fld → Bool
  | _, [] => true
  | p, f :: r => fieldB f.name && vMay f.v && (match p with | none => true | some q => Op.bytesLess q f.name) && okF (some f.name) r
def Ev.may (e : Ev) : Bool := topicB e.topic && fieldB e.prod && decide (1 ≤ e.seq) && decide (e.l.length ≤ 8) && okF none e.l
def getF (l : List Fld) (n : List UInt8) : Option V := (l.find? (fun f => f.name = n)).map (·.v)
def hasF (l : List Fld) (n : List UInt8) : Bool := l.any (fun f => f.name = n)
def setF : List Fld → List UInt8 → V → List Fld
  | [], _, _ => []
  | f :: r, n, v => if f.name = n then ⟨n, v⟩ :: r else f :: setF r n v
def insF : List Fld → List UInt8 → V → List Fld
  | [], n, v => [⟨n, v⟩]
  | f :: r, n, v => if Op.bytesLess n f.name = true then ⟨n, v⟩ :: f :: r else f :: insF r n v
def putF (l : List Fld) (n : List UInt8) (v : V) : List Fld := if hasF l n = true then setF l n v else insF l n v
def Ev.put (e : Ev) (n : List UInt8) (v : V) : Ev := { e with l := putF e.l n v }
theorem get_cons (f : Fld) (l : List Fld) (n : List UInt8) : getF (f :: l) n = if f.name = n then some f.v else getF l n := by
  unfold getF
  by_cases h : f.name = n <;> simp [h]
theorem has_cons (f : Fld) (l : List Fld) (n : List UInt8) : hasF (f :: l) n = (decide (f.name = n) || hasF l n) := rfl
theorem has_get (l : List Fld) (n : List UInt8) : hasF l n = (getF l n).isSome := by
  induction l with
  | nil => rfl
  | cons f l ih =>
    rw [has_cons, get_cons, ih]
    by_cases h : f.name = n <;> simp [h]
theorem set_cons (f : Fld) (r : List Fld) (n : List UInt8) (v : V) : setF (f :: r) n v = if f.name = n then ⟨n, v⟩ :: r else f :: setF r n v := rfl
theorem ins_cons (f : Fld) (r : List Fld) (n : List UInt8) (v : V) : insF (f :: r) n v = if Op.bytesLess n f.name = true then ⟨n, v⟩ :: f :: r else f :: insF r n v := rfl
theorem put_yes {l : List Fld} {n : List UInt8} {v : V} (h : hasF l n = true) : putF l n v = setF l n v := by unfold putF; rw [if_pos h]
theorem put_no {l : List Fld} {n : List UInt8} {v : V} (h : hasF l n = false) : putF l n v = insF l n v := by unfold putF; rw [h]; rfl
theorem get_set_self (l : List Fld) (n : List UInt8) (v : V) (h : hasF l n = true) : getF (setF l n v) n = some v := by
  induction l with
  | nil => simp [hasF] at h
  | cons f l ih =>
    rw [set_cons]
    by_cases e : f.name = n
    · rw [if_pos e, get_cons, if_pos rfl]
    · rw [if_neg e, get_cons, if_neg e]
      exact ih (by rw [has_cons] at h; simpa [e] using h)
theorem get_set_other (l : List Fld) (n m : List UInt8) (v : V) (hm : m ≠ n) : getF (setF l n v) m = getF l m := by
  induction l with
  | nil => rfl
  | cons f l ih =>
    rw [set_cons]
    by_cases e : f.name = n
    · rw [if_pos e, get_cons, get_cons, if_neg (fun h => hm h.symm), if_neg (fun h => hm (by rw [← h, e]))]
    · rw [if_neg e, get_cons, get_cons, ih]
theorem get_ins_self (l : List Fld) (n : List UInt8) (v : V) (h : hasF l n = false) : getF (insF l n v) n = some v := by
  induction l with
  | nil => unfold insF; rw [get_cons, if_pos rfl]
  | cons f l ih =>
    rw [has_cons] at h
    simp at h
    rw [ins_cons]
    split
    · rw [get_cons, if_pos rfl]
    · rw [get_cons, if_neg h.1]; exact ih h.2
theorem get_ins_other (l : List Fld) (n m : List UInt8) (v : V) (hm : m ≠ n) : getF (insF l n v) m = getF l m := by
  induction l with
  | nil => unfold insF; rw [get_cons, if_neg (fun h => hm h.symm)]
  | cons f l ih =>
    rw [ins_cons]
    split
    · rw [get_cons, if_neg (fun h => hm h.symm)]
    · rw [get_cons, get_cons, ih]
theorem get_put_self (l : List Fld) (n : List UInt8) (v : V) : getF (putF l n v) n = some v := by
  cases h : hasF l n with
  | true => rw [put_yes h]; exact get_set_self _ _ _ h
  | false => rw [put_no h]; exact get_ins_self _ _ _ h
theorem get_put_other (l : List Fld) (n m : List UInt8) (v : V) (hm : m ≠ n) : getF (putF l n v) m = getF l m := by
  cases h : hasF l n with
  | true => rw [put_yes h]; exact get_set_other _ _ _ _ hm
  | false => rw [put_no h]; exact get_ins_other _ _ _ _ hm
theorem set_length (l : List Fld) (n : List UInt8) (v : V) : (setF l n v).length = l.length := by
  induction l with
  | nil => rfl
  | cons f l ih => rw [set_cons]; split <;> simp [ih]
theorem ins_length (l : List Fld) (n : List UInt8) (v : V) : (insF l n v).length = l.length + 1 := by
  induction l with
  | nil => rfl
  | cons f l ih => rw [ins_cons]; split <;> simp [ih]
theorem set_set (l : List Fld) (n : List UInt8) (v w : V) : setF (setF l n w) n v = setF l n v := by
  induction l with
  | nil => rfl
  | cons f l ih =>
    by_cases e : f.name = n
    · simp [set_cons, e]
    · simp [set_cons, e, ih]
theorem set_ins (l : List Fld) (n : List UInt8) (v w : V) (h : hasF l n = false) : setF (insF l n w) n v = insF l n v := by
  induction l with
  | nil => simp [insF, setF]
  | cons f l ih =>
    rw [has_cons] at h
    simp at h
    by_cases e : Op.bytesLess n f.name = true
    · rw [ins_cons, ins_cons, if_pos e, if_pos e, set_cons, if_pos rfl]
    · rw [ins_cons, ins_cons, if_neg e, if_neg e, set_cons, if_neg h.1, ih h.2]
theorem put_put (l : List Fld) (n : List UInt8) (v w : V) : putF (putF l n w) n v = putF l n v := by
  have h : hasF (putF l n w) n = true := by rw [has_get, get_put_self]; rfl
  rw [put_yes h]
  cases h2 : hasF l n with
  | true => rw [put_yes h2, put_yes h2]; exact set_set _ _ _ _
  | false => rw [put_no h2, put_no h2]; exact set_ins _ _ _ _ h2
/-! ### Put keeps what may be -/
theorem okF_head {p : Option (List UInt8)} {f : Fld} {r : List Fld} : okF p (f :: r) = true ↔ fieldB f.name = true ∧ vMay f.v = true ∧ (∀ q, p = some q → Op.bytesLess q f.name = true) ∧ okF (some f.name) r = true := by
  have e : okF p (f :: r) = (fieldB f.name && vMay f.v && (match p with | none => true | some q => Op.bytesLess q f.name) && okF (some f.name) r) := by cases p <;> rfl
  rw [e]
  cases p with
  | none => simp [and_assoc]
  | some q => simp [and_assoc]
theorem okF_weak {p : Option (List UInt8)} {l : List Fld} (h : okF p l = true) (q : Option (List UInt8)) (hq : ∀ f r, l = f :: r → ∀ x, q = some x → Op.bytesLess x f.name = true) : okF q l = true := by
  cases l with
  | nil => rfl
  | cons f r =>
    rw [okF_head] at h ⊢
    exact ⟨h.1, h.2.1, hq f r rfl, h.2.2.2⟩
theorem set_ok (l : List Fld) (n : List UInt8) (v : V) (hv : vMay v = true) : ∀ p, okF p l = true → okF p (setF l n v) = true := by
  induction l with
  | nil => intro p h; exact h
  | cons f l ih =>
    intro p h
    rw [okF_head] at h
    rw [set_cons]
    split
    · rename_i e
      rw [okF_head]
      exact ⟨by rw [← e]; exact h.1, hv, by rw [← e]; exact h.2.2.1, by rw [← e]; exact h.2.2.2⟩
    · rw [okF_head]
      exact ⟨h.1, h.2.1, h.2.2.1, ih _ h.2.2.2⟩
theorem ins_ok (l : List Fld) (n : List UInt8) (v : V) (hn : fieldB n = true) (hv : vMay v = true) : ∀ p, (∀ q, p = some q → Op.bytesLess q n = true) → hasF l n = false → okF p l = true → okF p (insF l n v) = true := by
  induction l with
  | nil =>
    intro p hp _ _
    unfold insF
    rw [okF_head]
    exact ⟨hn, hv, hp, rfl⟩
  | cons f l ih =>
    intro p hp hh h
    rw [has_cons] at hh
    simp at hh
    have h' := h
    rw [okF_head] at h
    rw [ins_cons]
    split
    · rename_i e
      rw [okF_head]
      refine ⟨hn, hv, hp, ?_⟩
      exact okF_weak h' _ (fun g r hg x hx => by cases hg; cases hx; exact e)
    · rename_i e
      rw [okF_head]
      refine ⟨h.1, h.2.1, h.2.2.1, ih _ ?_ hh.2 h.2.2.2⟩
      intro q hq
      cases hq
      rcases less_total n f.name with a | a | a
      · exact absurd a e
      · exact absurd a.symm hh.1
      · exact a
theorem put_may (e : Ev) (n : List UInt8) (v : V) (he : e.may = true) (hn : fieldB n = true) (hv : vMay v = true) : (e.put n v).may = (hasF e.l n || decide (e.l.length < 8)) := by
  unfold Ev.may at he ⊢
  simp only [Bool.and_eq_true, decide_eq_true_eq] at he
  obtain ⟨⟨⟨⟨h1, h2⟩, h3⟩, h4⟩, h5⟩ := he
  unfold Ev.put putF
  simp only [h1, h2, decide_eq_true h3, Bool.true_and]
  cases hh : hasF e.l n with
  | true =>
    simp only [if_true, set_length, decide_eq_true h4, Bool.true_and, Bool.true_or]
    exact set_ok _ _ _ hv _ h5
  | false =>
    simp only [Bool.false_eq_true, if_false, ins_length, Bool.false_or]
    rw [ins_ok _ _ _ hn hv none (fun q hq => by cases hq) hh h5, Bool.and_true]
    congr 1
/-! ### Two fields, either way round -/
theorem set_comm (l : List Fld) (a b : List UInt8) (v w : V) (hab : a ≠ b) : setF (setF l a v) b w = setF (setF l b w) a v := by
  induction l with
  | nil => rfl
  | cons f l ih =>
    by_cases e : f.name = a
    · have e2 : f.name ≠ b := fun h => hab (by rw [← e, h])
      simp [setF, e, hab]
    · by_cases e2 : f.name = b
      · have e3 : ¬ b = a := fun h => hab h.symm
        simp [setF, e2, e3, hab]
      · simp [setF, e, e2, ih]
theorem has_set (l : List Fld) (a b : List UInt8) (v : V) : hasF (setF l a v) b = hasF l b := by
  induction l with
  | nil => rfl
  | cons f l ih =>
    rw [set_cons]
    split
    · rename_i e; rw [has_cons, has_cons, e]
    · rw [has_cons, has_cons, ih]
theorem has_ins (l : List Fld) (a b : List UInt8) (v : V) : hasF (insF l a v) b = (decide (a = b) || hasF l b) := by
  induction l with
  | nil => rfl
  | cons f l ih =>
    rw [ins_cons]
    split
    · rw [has_cons]
    · rw [has_cons, has_cons, ih]
      cases decide (f.name = b) <;> cases decide (a = b) <;> rfl
theorem set_ins_other (l : List Fld) (a b : List UInt8) (v w : V) (hab : a ≠ b) : setF (insF l a v) b w = insF (setF l b w) a v := by
  induction l with
  | nil => simp [insF, setF, hab]
  | cons f l ih =>
    by_cases e2 : f.name = b
    · by_cases e : Op.bytesLess a f.name = true
      · have e' : Op.bytesLess a b = true := by rw [← e2]; exact e
        simp [setF, insF, e', e2, hab]
      · have e' : Op.bytesLess a b = false := by rw [← e2]; simpa using e
        simp [setF, insF, e', e2]
    · by_cases e : Op.bytesLess a f.name = true
      · simp [setF, insF, e, e2, hab]
      · simp [setF, insF, e, e2, ih]
theorem ins_front {l : List Fld} {p : List UInt8} (hl : okF (some p) l = true) (a : List UInt8) (v : V) (ha : Op.bytesLess a p = true) : insF l a v = ⟨a, v⟩ :: l := by
  cases l with
  | nil => rfl
  | cons f r =>
    rw [okF_head] at hl
    rw [ins_cons, if_pos (less_trans ha (hl.2.2.1 p rfl))]
theorem ins_comm (l : List Fld) (a b : List UInt8) (v w : V) (hab : a ≠ b) : insF (insF l a v) b w = insF (insF l b w) a v := by
  induction l with
  | nil =>
    rcases less_total a b with h | h | h
    · have h' := less_asymm h; simp [insF, h, h']
    · exact absurd h hab
    · have h' := less_asymm h; simp [insF, h, h']
  | cons f l ih =>
    by_cases ea : Op.bytesLess a f.name = true <;> by_cases eb : Op.bytesLess b f.name = true
    · rcases less_total a b with h | h | h
      · have h' := less_asymm h; simp [insF, ea, eb, h, h']
      · exact absurd h hab
      · have h' := less_asymm h; simp [insF, ea, eb, h, h']
    · have h1 : Op.bytesLess b a = false := by
        cases h : Op.bytesLess b a with
        | false => rfl
        | true => exact absurd (less_trans h ea) eb
      simp [insF, ea, eb, h1]
    · have h1 : Op.bytesLess a b = false := by
        cases h : Op.bytesLess a b with
        | false => rfl
        | true => exact absurd (less_trans h eb) ea
      simp [insF, ea, eb, h1]
    · simp [insF, ea, eb, ih]
theorem put_comm (l : List Fld) (a b : List UInt8) (v w : V) (hab : a ≠ b) : putF (putF l a v) b w = putF (putF l b w) a v := by
  have hs : ∀ x y z, hasF (putF l x y) z = true ↔ (x = z ∨ hasF l z = true) := by
    intro x y z
    cases h : hasF l x with
    | true =>
      rw [put_yes h, has_set]
      constructor
      · exact .inr
      · intro h'
        rcases h' with e | h'
        · rw [← e]; exact h
        · exact h'
    | false => rw [put_no h, has_ins]; simp
  have h1 : hasF (putF l a v) b = hasF l b := by
    rw [Bool.eq_iff_iff, hs]; exact ⟨fun h => h.resolve_left hab, .inr⟩
  have h2 : hasF (putF l b w) a = hasF l a := by
    rw [Bool.eq_iff_iff, hs]; exact ⟨fun h => h.resolve_left (fun e => hab e.symm), .inr⟩
  cases ha : hasF l a <;> cases hb : hasF l b <;> rw [ha] at h2 <;> rw [hb] at h1
  · rw [put_no h1, put_no ha, put_no h2, put_no hb]; exact ins_comm _ _ _ _ _ hab
  · rw [put_yes h1, put_no ha, put_no h2, put_yes hb]; exact set_ins_other _ _ _ _ _ hab
  · rw [put_no h1, put_yes ha, put_yes h2, put_no hb]; exact (set_ins_other _ _ _ _ _ (fun e => hab e.symm)).symm
  · rw [put_yes h1, put_yes ha, put_yes h2, put_yes hb]; exact set_comm _ _ _ _ _ hab
end Tryst
