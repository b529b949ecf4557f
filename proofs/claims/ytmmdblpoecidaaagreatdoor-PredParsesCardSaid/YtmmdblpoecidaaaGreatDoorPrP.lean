/- Predicates, in plain words. -/
import Derived.Test.YtmmdblpoecidaaaGreatDoorFacts
import Derived.Test.YtmmdblpoecidaaaGreatDoorDraws
import Derived.Test.YtmmdblpoecidaaaGreatDoorNumV
set_option linter.unusedVariables false
set_option linter.unusedSimpArgs false
namespace Tryst
open Go Go.Lib
/-- a predicate, wherever its parts lie -/
inductive Pr where
  | mk (op s : ByteArray) (num : Bool) (n : Int) (vs : ByteArray) (l : List Pr)
namespace Pr
def op : Pr → ByteArray | mk o _ _ _ _ _ => o
def s : Pr → ByteArray | mk _ s _ _ _ _ => s
def num : Pr → Bool | mk _ _ b _ _ _ => b
def n : Pr → Int | mk _ _ _ n _ _ => n
def vs : Pr → ByteArray | mk _ _ _ _ v _ => v
def l : Pr → List Pr | mk _ _ _ _ _ l => l
def v (p : Pr) : V := ⟨p.num, p.n, p.vs.data.toList⟩
def zero : Pr := mk ⟨#[]⟩ ⟨#[]⟩ false 0 ⟨#[]⟩ []
end Pr
def gpartB (p : List UInt8) : Bool := decide (p = [42]) || (decide (p = [42, 42]) || partB p)
def globB (s : List UInt8) : Bool := decide (s.length ≤ 40) && decide ((dots s).length ≤ 8) && (dots s).all gpartB
inductive Opk where
  | all | topic | has | eq | lt | not | and | or
def Opk.text : Opk → ByteArray
  | .all => ⟨#[97, 108, 108]⟩
  | .topic => ⟨#[116, 111, 112, 105, 99]⟩
  | .has => ⟨#[104, 97, 115]⟩
  | .eq => ⟨#[101, 113]⟩
  | .lt => ⟨#[108, 116]⟩
  | .not => ⟨#[110, 111, 116]⟩
  | .and => ⟨#[97, 110, 100]⟩
  | .or => ⟨#[111, 114]⟩
def opk (o : ByteArray) : Option Opk :=
  if o.data.toList = [97, 108, 108] then some .all
  else if o.data.toList = [116, 111, 112, 105, 99] then some .topic
  else if o.data.toList = [104, 97, 115] then some .has
  else if o.data.toList = [101, 113] then some .eq
  else if o.data.toList = [108, 116] then some .lt
  else if o.data.toList = [110, 111, 116] then some .not
  else if o.data.toList = [97, 110, 100] then some .and
  else if o.data.toList = [111, 114] then some .or
  else none
/-- which one it is -/
theorem op_cases (o : ByteArray) : (∃ k : Opk, o = k.text) ∨ (opk o = none ∧ (o.toList == [97, 108, 108]) = false ∧ (o.toList == [116, 111, 112, 105, 99]) = false ∧ (o.toList == [104, 97, 115]) = false ∧ (o.toList == [101, 113]) = false ∧ (o.toList == [108, 116]) = false ∧ (o.toList == [110, 111, 116]) = false ∧ (o.toList == [97, 110, 100]) = false ∧ (o.toList == [111, 114]) = false) := by
  have key : ∀ (k : Opk) (l : List UInt8), k.text.data.toList = l → o.data.toList = l → ∃ k : Opk, o = k.text := fun k l h1 h2 => ⟨k, str_ext (h2.trans h1.symm)⟩
  by_cases h1 : o.data.toList = [97, 108, 108]
  · exact .inl (key .all _ rfl h1)
  by_cases h2 : o.data.toList = [116, 111, 112, 105, 99]
  · exact .inl (key .topic _ rfl h2)
  by_cases h3 : o.data.toList = [104, 97, 115]
  · exact .inl (key .has _ rfl h3)
  by_cases h4 : o.data.toList = [101, 113]
  · exact .inl (key .eq _ rfl h4)
  by_cases h5 : o.data.toList = [108, 116]
  · exact .inl (key .lt _ rfl h5)
  by_cases h6 : o.data.toList = [110, 111, 116]
  · exact .inl (key .not _ rfl h6)
  by_cases h7 : o.data.toList = [97, 110, 100]
  · exact .inl (key .and _ rfl h7)
  by_cases h8 : o.data.toList = [111, 114]
  · exact .inl (key .or _ rfl h8)
  refine .inr ⟨by simp only [opk, h1, h2, h3, h4, h5, h6, h7, h8, if_false], ?_, ?_, ?_, ?_, ?_, ?_, ?_, ?_⟩ <;> rw [str_toList] <;> simp [*]
theorem opk_text (k : Opk) : opk k.text = some k := by cases k <;> rfl
def noV (num : Bool) (n : Int) (vs : ByteArray) : Bool := !num && (decide (n = 0) && decide (vs.size = 0))
/-- may a node be, whatever its parts are? -/
def aloneB (op s : ByteArray) (num : Bool) (n : Int) (vs : ByteArray) (len : Nat) : Bool :=
  match opk op with
  | none => false
  | some .all => decide (s.size = 0) && (noV num n vs && decide (len = 0))
  | some .topic => globB s.data.toList && (noV num n vs && decide (len = 0))
  | some .has => fieldB s.data.toList && (noV num n vs && decide (len = 0))
  | some .eq => fieldB s.data.toList && (Go.Proofs.YtmmdblpoecidaaaGreatDoor.V.mayB ⟨num, n, vs.data.toList⟩ && decide (len = 0))
  | some .lt => fieldB s.data.toList && (Go.Proofs.YtmmdblpoecidaaaGreatDoor.V.mayB ⟨num, n, vs.data.toList⟩ && decide (len = 0))
  | some .not => decide (s.size = 0) && (noV num n vs && decide (len = 1))
  | some .and => decide (s.size = 0) && (noV num n vs && decide (len = 2))
  | some .or => decide (s.size = 0) && (noV num n vs && decide (len = 2))
def aloneK (k : Opk) (s : ByteArray) (num : Bool) (n : Int) (vs : ByteArray) (len : Nat) : Bool :=
  match k with
  | .all => decide (s.size = 0) && (noV num n vs && decide (len = 0))
  | .topic => globB s.data.toList && (noV num n vs && decide (len = 0))
  | .has => fieldB s.data.toList && (noV num n vs && decide (len = 0))
  | .eq => fieldB s.data.toList && (Go.Proofs.YtmmdblpoecidaaaGreatDoor.V.mayB ⟨num, n, vs.data.toList⟩ && decide (len = 0))
  | .lt => fieldB s.data.toList && (Go.Proofs.YtmmdblpoecidaaaGreatDoor.V.mayB ⟨num, n, vs.data.toList⟩ && decide (len = 0))
  | .not => decide (s.size = 0) && (noV num n vs && decide (len = 1))
  | .and => decide (s.size = 0) && (noV num n vs && decide (len = 2))
  | .or => decide (s.size = 0) && (noV num n vs && decide (len = 2))
theorem aloneB_at (k : Opk) (s : ByteArray) (num : Bool) (n : Int) (vs : ByteArray) (len : Nat) : aloneB k.text s num n vs len = aloneK k s num n vs len := by
  unfold aloneB
  rw [opk_text]
  cases k <;> rfl
mutual
/-- how deep, and may it be; and how many nodes were counted -/
def deepP : Pr → Nat → Nat → (Nat × Bool) × Nat
  | .mk op s num n vs l, room, nodes =>
    if room = 0 ∨ 40 < nodes + 1 ∨ aloneB op s num n vs l.length = false then ((1, false), nodes + 1)
    else match deepL l (room - 1) (nodes + 1) 0 with
      | ((d, true), m) => ((d + 1, true), m)
      | ((_, false), m) => ((1, false), m)
def deepL : List Pr → Nat → Nat → Nat → (Nat × Bool) × Nat
  | [], _, nodes, d => ((d, true), nodes)
  | q :: r, room, nodes, d => match deepP q room nodes with
    | ((b, true), m) => deepL r room m (max d b)
    | ((_, false), m) => ((0, false), m)
end
def mayP (p : Pr) : Bool := (deepP p 8 0).1.2 && decide ((deepP p 8 0).1.1 ≤ 8)
end Tryst
