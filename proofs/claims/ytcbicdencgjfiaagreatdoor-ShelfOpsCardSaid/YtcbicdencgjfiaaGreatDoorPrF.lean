/- joined: predicates, in plain words. -/
import Derived.Lib.SplitLaws
import Derived.Test.YtcbicdencgjfiaaGreatDoorNumV
set_option linter.unusedVariables false
set_option linter.unusedSimpArgs false
namespace Tryst
open Go Go.Lib
inductive Pr where
 | mk (op s:ByteArray) (num:Bool) (n:Int) (vs:ByteArray) (l:List Pr)
namespace Pr
def op:Pr→ByteArray | mk o _ _ _ _ _=>o
def s:Pr→ByteArray | mk _ s _ _ _ _=>s
def num:Pr→Bool | mk _ _ b _ _ _=>b
def n:Pr→Int | mk _ _ _ n _ _=>n
def vs:Pr→ByteArray | mk _ _ _ _ v _=>v
def l:Pr→List Pr | mk _ _ _ _ _ l=>l
def v (p:Pr):V:=⟨p.num,p.n,p.vs.data.toList⟩
def zero:Pr:=mk ⟨#[]⟩ ⟨#[]⟩ false 0 ⟨#[]⟩ []
end Pr
def gpartB (p:List UInt8):Bool:=decide (p=[42])||(decide (p=[42,42])||partB p)
def globB (s:List UInt8):Bool:=decide (s.length≤40)&&decide ((dots s).length≤8)&&(dots s).all gpartB
inductive Opk where
 | all | topic | has | eq | lt | not | and | or
def Opk.text:Opk→ByteArray
 | .all=>⟨#[97,108,108]⟩
 | .topic=>⟨#[116,111,112,105,99]⟩
 | .has=>⟨#[104,97,115]⟩
 | .eq=>⟨#[101,113]⟩
 | .lt=>⟨#[108,116]⟩
 | .not=>⟨#[110,111,116]⟩
 | .and=>⟨#[97,110,100]⟩
 | .or=>⟨#[111,114]⟩
def opk (o:ByteArray):Option Opk:=
 if o.data.toList=[97,108,108] then some .all
 else if o.data.toList=[116,111,112,105,99] then some .topic
 else if o.data.toList=[104,97,115] then some .has
 else if o.data.toList=[101,113] then some .eq
 else if o.data.toList=[108,116] then some .lt
 else if o.data.toList=[110,111,116] then some .not
 else if o.data.toList=[97,110,100] then some .and
 else if o.data.toList=[111,114] then some .or
 else none
theorem op_cases (o:ByteArray):(∃ k:Opk,o=k.text)∨(opk o=none∧(o.toList==[97,108,108])=false∧(o.toList==[116,111,112,105,99])=false∧(o.toList==[104,97,115])=false∧(o.toList==[101,113])=false∧(o.toList==[108,116])=false∧(o.toList==[110,111,116])=false∧(o.toList==[97,110,100])=false∧(o.toList==[111,114])=false):=by
 have key:∀ (k:Opk) (l:List UInt8),k.text.data.toList=l→o.data.toList=l→∃ k:Opk,o=k.text:=fun k l h1 h2=>⟨k,str_ext (h2.trans h1.symm)⟩
 by_cases h1:o.data.toList=[97,108,108]
 ·
  exact .inl (key .all _ rfl h1)
 by_cases h2:o.data.toList=[116,111,112,105,99]
 ·
  exact .inl (key .topic _ rfl h2)
 by_cases h3:o.data.toList=[104,97,115]
 ·
  exact .inl (key .has _ rfl h3)
 by_cases h4:o.data.toList=[101,113]
 ·
  exact .inl (key .eq _ rfl h4)
 by_cases h5:o.data.toList=[108,116]
 ·
  exact .inl (key .lt _ rfl h5)
 by_cases h6:o.data.toList=[110,111,116]
 ·
  exact .inl (key .not _ rfl h6)
 by_cases h7:o.data.toList=[97,110,100]
 ·
  exact .inl (key .and _ rfl h7)
 by_cases h8:o.data.toList=[111,114]
 ·
  exact .inl (key .or _ rfl h8)
 refine .inr ⟨by simp only [opk,h1,h2,h3,h4,h5,h6,h7,h8,if_false],?_,?_,?_,?_,?_,?_,?_,?_⟩<;>rw [str_toList]<;>simp [*]
theorem opk_text (k:Opk):opk k.text=some k:=by cases k<;>rfl
def noV (num:Bool) (n:Int) (vs:ByteArray):Bool:=!num&&(decide (n=0)&&decide (vs.size=0))
def aloneB (op s:ByteArray) (num:Bool) (n:Int) (vs:ByteArray) (len:Nat):Bool:=
 match opk op with
 | none=>false
 | some .all=>decide (s.size=0)&&(noV num n vs&&decide (len=0))
 | some .topic=>globB s.data.toList&&(noV num n vs&&decide (len=0))
 | some .has=>fieldB s.data.toList&&(noV num n vs&&decide (len=0))
 | some .eq=>fieldB s.data.toList&&(Go.Proofs.YtcbicdencgjfiaaGreatDoor.V.mayB ⟨num,n,vs.data.toList⟩&&decide (len=0))
 | some .lt=>fieldB s.data.toList&&(Go.Proofs.YtcbicdencgjfiaaGreatDoor.V.mayB ⟨num,n,vs.data.toList⟩&&decide (len=0))
 | some .not=>decide (s.size=0)&&(noV num n vs&&decide (len=1))
 | some .and=>decide (s.size=0)&&(noV num n vs&&decide (len=2))
 | some .or=>decide (s.size=0)&&(noV num n vs&&decide (len=2))
def aloneK (k:Opk) (s:ByteArray) (num:Bool) (n:Int) (vs:ByteArray) (len:Nat):Bool:=
 match k with
 | .all=>decide (s.size=0)&&(noV num n vs&&decide (len=0))
 | .topic=>globB s.data.toList&&(noV num n vs&&decide (len=0))
 | .has=>fieldB s.data.toList&&(noV num n vs&&decide (len=0))
 | .eq=>fieldB s.data.toList&&(Go.Proofs.YtcbicdencgjfiaaGreatDoor.V.mayB ⟨num,n,vs.data.toList⟩&&decide (len=0))
 | .lt=>fieldB s.data.toList&&(Go.Proofs.YtcbicdencgjfiaaGreatDoor.V.mayB ⟨num,n,vs.data.toList⟩&&decide (len=0))
 | .not=>decide (s.size=0)&&(noV num n vs&&decide (len=1))
 | .and=>decide (s.size=0)&&(noV num n vs&&decide (len=2))
 | .or=>decide (s.size=0)&&(noV num n vs&&decide (len=2))
theorem aloneB_at (k:Opk) (s:ByteArray) (num:Bool) (n:Int) (vs:ByteArray) (len:Nat):aloneB k.text s num n vs len=aloneK k s num n vs len:=by
 unfold aloneB
 rw [opk_text]
 cases k<;>rfl
mutual
def deepP:Pr→Nat→Nat→(Nat × Bool) × Nat
 | .mk op s num n vs l,room,nodes=>
  if room=0∨40 < nodes+1∨aloneB op s num n vs l.length=false then ((1,false),nodes+1)
  else match deepL l (room - 1) (nodes+1) 0 with
   | ((d,true),m)=>((d+1,true),m)
   | ((_,false),m)=>((1,false),m)
def deepL:List Pr→Nat→Nat→Nat→(Nat × Bool) × Nat
 | [],_,nodes,d=>((d,true),nodes)
 | q :: r,room,nodes,d=>match deepP q room nodes with
  | ((b,true),m)=>deepL r room m (max d b)
  | ((_,false),m)=>((0,false),m)
end
def mayP (p:Pr):Bool:=(deepP p 8 0).1.2&&decide ((deepP p 8 0).1.1≤8)
end Tryst
namespace Tryst
open Go
def anyTail (f:List (List UInt8)→Bool):List (List UInt8)→Bool
 | []=>f []
 | x :: r=>f (x :: r)||anyTail f r
def meetsL:List (List UInt8)→List (List UInt8)→Bool
 | [],t=>t.isEmpty
 | p :: g,t=>if p=[42,42] then anyTail (fun u=>meetsL g u) t else match t with
  | []=>false
  | x :: r=>(decide (p=[42])||decide (p=x))&&meetsL g r
theorem meetsL_cons (p:List UInt8) (g t:List (List UInt8)):meetsL (p :: g) t=if p=[42,42] then anyTail (fun u=>meetsL g u) t else match t with
  | []=>false
  | x :: r=>(decide (p=[42])||decide (p=x))&&meetsL g r:=by
 cases t<;>rfl
def succs (g t:List (List UInt8)) (i j:Nat):List (Nat × Nat):=
 match g[i]? with
 | none=>[]
 | some p=>if p=[42,42] then (i+1,j) :: (if j < t.length then [(i,j+1)] else [])
  else if j < t.length∧(p=[42]∨t[j]?=some p) then [(i+1,j+1)] else []
section
variable {g t:List (List UInt8)}
theorem meets_at {i j:Nat} (hi:i < g.length) (hj:j≤t.length):meetsL (g.drop i) (t.drop j)=(succs g t i j).any (fun s=>meetsL (g.drop s.1) (t.drop s.2)):=by
 have hg:g.drop i=g[i] :: g.drop (i+1):=List.drop_eq_getElem_cons hi
 unfold succs
 rw [List.getElem?_eq_getElem hi,hg,meetsL_cons]
 by_cases hp:g[i]=[42,42]
 ·
  simp only [hp,if_true]
  by_cases hlt:j < t.length
  ·
   have ht:t.drop j=t[j] :: t.drop (j+1):=List.drop_eq_getElem_cons hlt
   have h2:meetsL (g.drop i) (t.drop (j+1))=anyTail (fun u=>meetsL (g.drop (i+1)) u) (t.drop (j+1)):=by rw [hg,meetsL_cons,if_pos hp]
   simp only [hlt,if_true,List.any_cons,List.any_nil,Bool.or_false,h2]
   rw [ht]
   rfl
  ·
   have ht:t.drop j=[]:=List.drop_eq_nil_of_le (by omega)
   simp only [hlt,if_false,List.any_cons,List.any_nil,Bool.or_false]
   rw [ht]
   rfl
 ·
  simp only [hp,if_false]
  by_cases hlt:j < t.length
  ·
   have ht:t.drop j=t[j] :: t.drop (j+1):=List.drop_eq_getElem_cons hlt
   rw [ht]
   simp only [List.getElem?_eq_getElem hlt,Option.some.injEq,hlt,true_and]
   by_cases h1:g[i]=[42]
   ·
    simp [h1]
   ·
    by_cases h2:g[i]=t[j]
    ·
     simp [h1,h2]
    ·
     have h3:¬ t[j]=g[i]:=fun e=>h2 e.symm
     simp [h1,h2,h3]
  ·
   have ht:t.drop j=[]:=List.drop_eq_nil_of_le (by omega)
   rw [ht]
   simp [hlt]
theorem meets_end {j:Nat} (hj:j≤t.length):meetsL (g.drop g.length) (t.drop j)=decide (j=t.length):=by
 rw [List.drop_length]
 show (t.drop j).isEmpty=_
 rw [Bool.eq_iff_iff,List.isEmpty_iff,decide_eq_true_eq]
 constructor
 ·
  intro h
  have:=congrArg List.length h
  simp at this;omega
 ·
  rintro rfl
  exact List.drop_length
theorem succs_in {i j:Nat} {s:Nat × Nat} (hj:j≤t.length) (h:s∈succs g t i j):s.1≤g.length∧s.2≤t.length∧(g.length - s.1)+(t.length - s.2) < (g.length - i)+(t.length - j):=by
 unfold succs at h
 split at h
 ·
  cases h
 ·
  rename_i p hp
  have hi:i < g.length:=(List.getElem?_eq_some_iff.1 hp).1
  split at h
  ·
   rcases List.mem_cons.1 h with rfl | h
   ·
    dsimp only;omega
   ·
    split at h
    ·
     rw [List.mem_singleton] at h;subst h;dsimp only;omega
    ·
     cases h
  ·
   split at h
   ·
    rw [List.mem_singleton] at h;subst h;dsimp only;omega
   ·
    cases h
theorem succs_out {i j:Nat} (h:g.length≤i):succs g t i j=[]:=by
 unfold succs
 rw [List.getElem?_eq_none h]
theorem closed_end {C:Nat→Nat→Bool} (hC:∀ i j,C i j=true→∀ s∈succs g t i j,C s.1 s.2=true):∀ (n i j:Nat),(g.length - i)+(t.length - j)≤n→i≤g.length→j≤t.length→C i j=true→meetsL (g.drop i) (t.drop j)=true→C g.length t.length=true:=by
 intro n
 induction n with
 | zero=>
  intro i j hn hi hj hc _
  obtain rfl:i=g.length:=by omega
  obtain rfl:j=t.length:=by omega
  exact hc
 | succ n ih=>
  intro i j hn hi hj hc hm
  by_cases hlt:i < g.length
  ·
   rw [meets_at hlt hj,List.any_eq_true] at hm
   obtain ⟨s,hs,hm⟩:=hm
   obtain ⟨h1,h2,h3⟩:=succs_in hj hs
   exact ih s.1 s.2 (by omega) h1 h2 (hC i j hc s hs) hm
  ·
   obtain rfl:i=g.length:=by omega
   rw [meets_end hj,decide_eq_true_eq] at hm
   subst hm
   exact hc
structure MeetI (g t:List (List UInt8)) (met:Nat→Nat→Bool) (work:List (Nat × Nat)):Prop where
 start:met 0 0=true
 inb:∀ i j,met i j=true→i≤g.length∧j≤t.length
 wk:∀ s∈work,met s.1 s.2=true
 done:∀ i j,met i j=true→(i,j) ∉ work→∀ s∈succs g t i j,met s.1 s.2=true
 back:∀ i j,met i j=true→meetsL (g.drop i) (t.drop j)=true→meetsL g t=true
theorem MeetI.first:MeetI g t (fun i j=>decide (i=0∧j=0)) [(0,0)] where
 start:=by simp
 inb i j h:=by simp only [decide_eq_true_eq] at h;omega
 wk s h:=by rw [List.mem_singleton] at h;subst h;simp
 done i j h hn:=by
  simp only [decide_eq_true_eq] at h
  exact absurd (by simp [h.1,h.2]) hn
 back i j h hm:=by
  simp only [decide_eq_true_eq] at h
  obtain ⟨rfl,rfl⟩:=h
  simpa using hm
theorem MeetI.last {met:Nat→Nat→Bool} (h:MeetI g t met []):met g.length t.length=meetsL g t:=by
 rw [Bool.eq_iff_iff]
 constructor
 ·
  intro hm
  refine h.back _ _ hm ?_
  rw [List.drop_length,List.drop_length]
  rfl
 ·
  intro hm
  exact closed_end (fun i j hc=>h.done i j hc (by simp)) _ 0 0 (Nat.le_refl _) (Nat.zero_le _) (Nat.zero_le _) h.start (by simpa using hm)
def setM (met:Nat→Nat→Bool) (s:Nat × Nat):Nat→Nat→Bool:=fun i j=>decide ((i,j)=s)||met i j
def addM (x:(Nat→Nat→Bool) × List (Nat × Nat)) (s:Nat × Nat):(Nat→Nat→Bool) × List (Nat × Nat):=if x.1 s.1 s.2=true then x else (setM x.1 s,x.2++[s])
theorem addM_mono (x:(Nat→Nat→Bool) × List (Nat × Nat)) (s:Nat × Nat) {i j:Nat} (h:x.1 i j=true):(addM x s).1 i j=true:=by
 unfold addM
 split
 ·
  exact h
 ·
  show (decide _||x.1 i j)=true
  rw [h,Bool.or_true]
theorem addM_self (x:(Nat→Nat→Bool) × List (Nat × Nat)) (s:Nat × Nat):(addM x s).1 s.1 s.2=true:=by
 unfold addM
 split
 ·
  assumption
 ·
  simp [setM]
theorem addM_cases (x:(Nat→Nat→Bool) × List (Nat × Nat)) (s:Nat × Nat) {i j:Nat} (h:(addM x s).1 i j=true):x.1 i j=true∨((i,j)=s∧s∈(addM x s).2):=by
 unfold addM at h ⊢
 split at h
 ·
  exact .inl h
 ·
  rename_i hn
  rw [if_neg hn]
  rcases Bool.or_eq_true_iff.1 h with h | h
  ·
   exact .inr ⟨by simpa using h,by simp⟩
  ·
   exact .inl h
theorem addM_work (x:(Nat→Nat→Bool) × List (Nat × Nat)) (s:Nat × Nat):∀ u∈(addM x s).2,u∈x.2∨u=s:=by
 unfold addM
 split
 ·
  exact fun u h=>.inl h
 ·
  intro u h
  simpa using h
theorem addM_sub (x:(Nat→Nat→Bool) × List (Nat × Nat)) (s:Nat × Nat):∀ u∈x.2,u∈(addM x s).2:=by
 unfold addM
 split
 ·
  exact fun u h=>h
 ·
  intro u h
  simp [h]
def roundM (g t:List (List UInt8)) (met:Nat→Nat→Bool) (w0:List (Nat × Nat)) (l:Nat × Nat):(Nat→Nat→Bool) × List (Nat × Nat):=(succs g t l.1 l.2).foldl addM (met,w0)
theorem fold_mono (ss:List (Nat × Nat)):∀ (x:(Nat→Nat→Bool) × List (Nat × Nat)) {i j:Nat},x.1 i j=true→(ss.foldl addM x).1 i j=true:=by
 induction ss with
 | nil=>exact fun _ _ _ h=>h
 | cons s r ih=>exact fun x _ _ h=>ih _ (addM_mono x s h)
theorem fold_self (ss:List (Nat × Nat)):∀ (x:(Nat→Nat→Bool) × List (Nat × Nat)),∀ s∈ss,(ss.foldl addM x).1 s.1 s.2=true:=by
 induction ss with
 | nil=>intro _ _ h;cases h
 | cons s r ih=>
  intro x u hu
  rcases List.mem_cons.1 hu with rfl | hu
  ·
   exact fold_mono r _ (addM_self x u)
  ·
   exact ih _ u hu
theorem fold_sub (ss:List (Nat × Nat)):∀ (x:(Nat→Nat→Bool) × List (Nat × Nat)),∀ u∈x.2,u∈(ss.foldl addM x).2:=by
 induction ss with
 | nil=>exact fun _ _ h=>h
 | cons s r ih=>exact fun x u h=>ih _ u (addM_sub x s u h)
theorem fold_cases (ss:List (Nat × Nat)):∀ (x:(Nat→Nat→Bool) × List (Nat × Nat)) {i j:Nat},(ss.foldl addM x).1 i j=true→x.1 i j=true∨((i,j)∈ss∧(i,j)∈(ss.foldl addM x).2):=by
 induction ss with
 | nil=>exact fun _ _ _ h=>.inl h
 | cons s r ih=>
  intro x i j h
  rcases ih _ h with h | ⟨h1,h2⟩
  ·
   rcases addM_cases x s h with h | ⟨h1,h2⟩
   ·
    exact .inl h
   ·
    subst h1
    exact .inr ⟨List.mem_cons_self,fold_sub r _ _ h2⟩
  ·
   exact .inr ⟨List.mem_cons_of_mem _ h1,h2⟩
theorem fold_work (ss:List (Nat × Nat)):∀ (x:(Nat→Nat→Bool) × List (Nat × Nat)),∀ u∈(ss.foldl addM x).2,u∈x.2∨u∈ss:=by
 induction ss with
 | nil=>exact fun _ _ h=>.inl h
 | cons s r ih=>
  intro x u h
  rcases ih _ u h with h | h
  ·
   rcases addM_work x s u h with h | rfl
   ·
    exact .inl h
   ·
    exact .inr List.mem_cons_self
  ·
   exact .inr (List.mem_cons_of_mem _ h)
theorem MeetI.round {met:Nat→Nat→Bool} {w0:List (Nat × Nat)} {l:Nat × Nat} (h:MeetI g t met (w0++[l])):MeetI g t (roundM g t met w0 l).1 (roundM g t met w0 l).2:=by
 have hl:met l.1 l.2=true:=h.wk l (by simp)
 obtain ⟨hl1,hl2⟩:=h.inb _ _ hl
 unfold roundM
 refine ⟨fold_mono _ _ h.start,fun i j hc=>?_,fun s hs=>?_,fun i j hc hn s hs=>?_,fun i j hc hm=>?_⟩
 ·
  rcases fold_cases _ _ hc with hc | ⟨hc,_⟩
  ·
   exact h.inb i j hc
  ·
   obtain ⟨h1,h2,_⟩:=succs_in hl2 hc
   exact ⟨h1,h2⟩
 ·
  rcases fold_work _ _ s hs with hs | hs
  ·
   exact fold_mono _ _ (h.wk s (by simp [show s∈w0 from hs]))
  ·
   exact fold_self _ _ s hs
 ·
  rcases fold_cases _ _ hc with hc | ⟨_,hc⟩
  ·
   by_cases e:(i,j)=l
   ·
    subst e
    exact fold_self _ _ s hs
   ·
    refine fold_mono _ _ (h.done i j hc (fun hm=>?_) s hs)
    rcases List.mem_append.1 hm with hm | hm
    ·
     exact hn (fold_sub _ _ _ hm)
    ·
     exact e (List.mem_singleton.1 hm)
  ·
   exact absurd hc hn
 ·
  rcases fold_cases _ _ hc with hc | ⟨hc,_⟩
  ·
   exact h.back i j hc hm
  ·
   refine h.back l.1 l.2 hl ?_
   by_cases hlt:l.1 < g.length
   ·
    rw [meets_at hlt hl2,List.any_eq_true]
    exact ⟨_,hc,hm⟩
   ·
    rw [succs_out (by omega)] at hc
    cases hc
end
end Tryst
namespace Tryst
open Go Go.Lib
mutual
def formP:Pr→Nat→Bool
 | .mk op s num n vs l,room=>decide (room≠0)&&(aloneB op s num n vs l.length&&formL l (room - 1))
def formL:List Pr→Nat→Bool
 | [],_=>true
 | q :: r,room=>formP q room&&formL r room
end
mutual
def nodesP:Pr→Nat
 | .mk _ _ _ _ _ l=>1+nodesL l
def nodesL:List Pr→Nat
 | []=>0
 | q :: r=>nodesP q+nodesL r
end
theorem nodesP_pos (p:Pr):1≤nodesP p:=by
 cases p
 rw [nodesP]
 omega
mutual
theorem deepP_eq:∀ (p:Pr) (room k:Nat),(deepP p room k).1.2=(formP p room&&decide (k+nodesP p≤40))∧((deepP p room k).1.2=true→(deepP p room k).2=k+nodesP p∧(deepP p room k).1.1≤room)
 | .mk op s num n vs l,room,k=>by
  rw [deepP,formP,nodesP]
  by_cases h:room=0∨40 < k+1∨aloneB op s num n vs l.length=false
  ·
   rw [if_pos h]
   refine ⟨?_,fun e=>by cases e⟩
   rcases h with h | h | h
   ·
    simp [h]
   ·
    have:¬ (k+(1+nodesL l)≤40):=by omega
    simp [this]
   ·
    simp [h]
  ·
   rw [if_neg h]
   have h1:room≠0:=fun e=>h (.inl e)
   have h2:k+1≤40:=by
    have:=fun e=>h (.inr (.inl e))
    omega
   have h3:aloneB op s num n vs l.length=true:=by
    cases e:aloneB op s num n vs l.length with
    | false=>exact absurd (.inr (.inr e)) h
    | true=>rfl
   obtain ⟨e1,e2⟩:=deepL_eq l (room - 1) (k+1) 0 h2 (Nat.zero_le _)
   rw [h3]
   have hk:k+(1+nodesL l)=k+1+nodesL l:=by omega
   rw [hk]
   rcases hd:deepL l (room - 1) (k+1) 0 with ⟨⟨d,b⟩,m⟩
   rw [hd] at e1 e2
   cases b with
   | true=>
    obtain ⟨e3,e4⟩:=e2 rfl
    refine ⟨?_,fun _=>⟨e3,?_⟩⟩
    ·
     show true=_
     simp only [h1,ne_eq,not_false_eq_true,decide_true,Bool.true_and]
     exact e1
    ·
     show d+1≤room
     have e4:d≤room - 1:=e4
     omega
   | false=>
    refine ⟨?_,fun e=>by cases e⟩
    show false=_
    simp only [h1,ne_eq,not_false_eq_true,decide_true,Bool.true_and]
    exact e1
theorem deepL_eq:∀ (l:List Pr) (room k d:Nat),k≤40→d≤room→(deepL l room k d).1.2=(formL l room&&decide (k+nodesL l≤40))∧((deepL l room k d).1.2=true→(deepL l room k d).2=k+nodesL l∧(deepL l room k d).1.1≤room)
 | [],room,k,d,hk,hd=>by
  rw [deepL,formL,nodesL]
  exact ⟨by simp [hk],fun _=>⟨rfl,hd⟩⟩
 | q :: r,room,k,d,hk,hd=>by
  rw [deepL,formL,nodesL]
  obtain ⟨e1,e2⟩:=deepP_eq q room k
  rcases hq:deepP q room k with ⟨⟨b,ok⟩,m⟩
  rw [hq] at e1 e2
  cases ok with
  | true=>
   obtain ⟨rfl,e4⟩:=e2 rfl
   have e1:true=(formP q room&&decide (k+nodesP q≤40)):=e1
   have e5:=e1.symm
   rw [Bool.and_eq_true,decide_eq_true_eq] at e5
   have e4:b≤room:=e4
   obtain ⟨f1,f2⟩:=deepL_eq r room (k+nodesP q) (max d b) e5.2 (by omega)
   have hn:k+(nodesP q+nodesL r)=k+nodesP q+nodesL r:=by omega
   rw [hn,e5.1,Bool.true_and]
   exact ⟨f1,f2⟩
  | false=>
   refine ⟨?_,fun e=>by cases e⟩
   show false=_
   have e1:false=(formP q room&&decide (k+nodesP q≤40)):=e1
   rcases Bool.and_eq_false_iff.1 e1.symm with e | e
   ·
    rw [e];rfl
   ·
    have:¬ (k+(nodesP q+nodesL r)≤40):=by
     simp only [decide_eq_false_iff_not] at e
     omega
    simp [this]
end
theorem mayP_eq (p:Pr):mayP p=(formP p 8&&decide (nodesP p≤40)):=by
 obtain ⟨h1,h2⟩:=deepP_eq p 8 0
 unfold mayP
 rw [Nat.zero_add] at h1
 cases hb:(deepP p 8 0).1.2 with
 | false=>rw [← h1,hb];rfl
 | true=>
  rw [← h1,hb]
  have:=(h2 hb).2
  simp [this]
end Tryst
