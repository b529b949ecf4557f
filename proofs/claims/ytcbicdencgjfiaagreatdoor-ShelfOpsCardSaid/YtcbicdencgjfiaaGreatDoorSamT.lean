/- Which predicates are the same, their texts, and that texts are parsed as they were; plain. -/
import Derived.Test.YtcbicdencgjfiaaGreatDoorMay5
set_option linter.unusedVariables false
set_option linter.unusedSimpArgs false
namespace Tryst
open Go Go.RowKit
def headB (x y:PB):Bool:=decide (x.op=y.op)&&(decide (x.s=y.s)&&((decide (x.num=y.num)&&(decide (x.n=y.n)&&decide (x.vs=y.vs)))&&decide (x.l.length=y.l.length)))
mutual
def sameB:PB→PB→Bool
 | .mk op s num n vs a c l,.mk op' s' num' n' vs' a' c' l'=>headB (.mk op s num n vs a c l) (.mk op' s' num' n' vs' a' c' l')&&sameL l l'
def sameL:List PB→List PB→Bool
 | [],[]=>true
 | x :: r,y :: t=>sameB x y&&sameL r t
 | [],_ :: _=>false
 | _ :: _,[]=>false
end
theorem sameB_eq (x y:PB):sameB x y=(headB x y&&sameL x.l y.l):=by
 cases x;cases y
 rw [sameB]
 rfl
theorem headB_len {x y:PB} (h:headB x y=true):x.l.length=y.l.length:=by
 unfold headB at h
 simp only [Bool.and_eq_true,decide_eq_true_eq] at h
 exact h.2.2.2
theorem sameL_iff:∀ (l m:List PB),l.length=m.length→(sameL l m=true↔∀ (i:Nat) (x y:PB),l[i]?=some x→m[i]?=some y→sameB x y=true)
 | [],[],_=>by rw [sameL];simp
 | x :: r,y :: t,h=>by
  rw [sameL,Bool.and_eq_true,sameL_iff r t (by simpa using h)]
  constructor
  ·
   rintro ⟨h1,h2⟩ i u v hu hv
   cases i with
   | zero=>
    simp at hu hv
    subst hu;subst hv
    exact h1
   | succ i=>exact h2 i u v (by simpa using hu) (by simpa using hv)
  ·
   intro h
   exact ⟨h 0 x y rfl rfl,fun i u v hu hv=>h (i+1) u v (by simpa using hu) (by simpa using hv)⟩
 | [],_ :: _,h=>by simp at h
 | _ :: _,[],h=>by simp at h
structure SW where
 a:Option Addr
 l:List PB
 c:Nat
 b:Option Addr
 m:List PB
 d:Nat
def SW.cells (s:SW):List Value:=[.slice s.a s.l.length s.c,.slice s.b s.m.length s.d]
def okB (S:List SW) (x y:PB):Prop:=headB x y=true∧(x.l=[]∨∃ s∈S,s.l=x.l∧s.m=y.l)
theorem okB.mono {S S':List SW} {x y:PB} (h:okB S x y) (hs:∀ s∈S,s∈S'):okB S' x y:=⟨h.1,h.2.imp id fun ⟨s,h1,h2⟩=>⟨s,hs s h1,h2⟩⟩
structure SameI (p q:PB) (S Wk:List SW):Prop where
 start:∃ s∈S,s.l=[p]∧s.m=[q]
 wk:∀ s∈Wk,s∈S
 len:∀ s∈S,s.l.length=s.m.length
 back:sameB p q=true→∀ s∈S,sameL s.l s.m=true
 done:∀ s∈S,s∈Wk∨∀ (i:Nat) (x y:PB),s.l[i]?=some x→s.m[i]?=some y→okB S x y
structure SameJ (p q:PB) (S Wk:List SW) (t:SW) (k:Nat):Prop where
 start:∃ s∈S,s.l=[p]∧s.m=[q]
 wk:∀ s∈Wk,s∈S
 len:∀ s∈S,s.l.length=s.m.length
 back:sameB p q=true→∀ s∈S,sameL s.l s.m=true
 mem:t∈S
 part:∀ (i:Nat) (x y:PB),i < k→t.l[i]?=some x→t.m[i]?=some y→okB S x y
 done:∀ s∈S,s∈Wk∨s=t∨∀ (i:Nat) (x y:PB),s.l[i]?=some x→s.m[i]?=some y→okB S x y
section
variable {p q:PB} {S Wk:List SW} {t:SW} {k:Nat}
theorem SameI.first (a b:Option Addr) (c d:Nat):SameI p q [⟨a,[p],c,b,[q],d⟩] [⟨a,[p],c,b,[q],d⟩] where
 start:=⟨_,List.mem_singleton.2 rfl,rfl,rfl⟩
 wk s h:=h
 len s h:=by rw [List.mem_singleton] at h;subst h;rfl
 back h s hs:=by
  rw [List.mem_singleton] at hs
  subst hs
  show sameL [p] [q]=true
  rw [sameL,h,sameL]
  rfl
 done s h:=.inl h
theorem SameI.pop (h:SameI p q S (Wk++[t])):SameJ p q S Wk t 0 where
 start:=h.start
 wk s hs:=h.wk s (List.mem_append_left _ hs)
 len:=h.len
 back:=h.back
 mem:=h.wk t (by simp)
 part i x y hi:=by omega
 done s hs:=by
  rcases h.done s hs with h1 | h1
  ·
   rcases List.mem_append.1 h1 with h2 | h2
   ·
    exact .inl h2
   ·
    exact .inr (.inl (List.mem_singleton.1 h2))
  ·
   exact .inr (.inr h1)
theorem SameJ.at (h:SameJ p q S Wk t k) {x y:PB} (hx:t.l[k]?=some x) (hy:t.m[k]?=some y) (hs:sameB p q=true):sameB x y=true:=
 (sameL_iff _ _ (h.len t h.mem)).1 (h.back hs t h.mem) k x y hx hy
theorem SameJ.fail (h:SameJ p q S Wk t k) {x y:PB} (hx:t.l[k]?=some x) (hy:t.m[k]?=some y) (hh:headB x y=false):sameB p q=false:=by
 cases e:sameB p q with
 | false=>rfl
 | true=>
  have:=h.at hx hy e
  rw [sameB_eq,hh] at this
  cases this
theorem SameJ.step (h:SameJ p q S Wk t k) {x y:PB} (hx:t.l[k]?=some x) (hy:t.m[k]?=some y) (ho:okB S x y):SameJ p q S Wk t (k+1) where
 start:=h.start
 wk:=h.wk
 len:=h.len
 back:=h.back
 mem:=h.mem
 part i u v hi hu hv:=by
  by_cases e:i=k
  ·
   subst e
   rw [hx] at hu
   rw [hy] at hv
   cases hu;cases hv
   exact ho
  ·
   exact h.part i u v (by omega) hu hv
 done:=h.done
theorem SameJ.push (h:SameJ p q S Wk t k) {x y:PB} (hx:t.l[k]?=some x) (hy:t.m[k]?=some y) (hh:headB x y=true) (a b:Option Addr) (c d:Nat):SameJ p q (⟨a,x.l,c,b,y.l,d⟩ :: S) (Wk++[⟨a,x.l,c,b,y.l,d⟩]) t (k+1):=by
 have hm:∀ s∈S,s∈(⟨a,x.l,c,b,y.l,d⟩ :: S:List SW):=fun s hs=>List.mem_cons_of_mem _ hs
 refine ⟨?_,?_,?_,?_,hm _ h.mem,?_,?_⟩
 ·
  obtain ⟨s,h1,h2⟩:=h.start
  exact ⟨s,hm s h1,h2⟩
 ·
  intro s hs
  rcases List.mem_append.1 hs with h1 | h1
  ·
   exact hm s (h.wk s h1)
  ·
   rw [List.mem_singleton] at h1
   subst h1
   exact List.mem_cons_self
 ·
  intro s hs
  rcases List.mem_cons.1 hs with rfl | h1
  ·
   exact headB_len hh
  ·
   exact h.len s h1
 ·
  intro e s hs
  rcases List.mem_cons.1 hs with rfl | h1
  ·
   have:=h.at hx hy e
   rw [sameB_eq,hh] at this
   exact this
  ·
   exact h.back e s h1
 ·
  intro i u v hi hu hv
  by_cases e:i=k
  ·
   subst e
   rw [hx] at hu
   rw [hy] at hv
   cases hu;cases hv
   exact ⟨hh,.inr ⟨_,List.mem_cons_self,rfl,rfl⟩⟩
  ·
   exact (h.part i u v (by omega) hu hv).mono hm
 ·
  intro s hs
  rcases List.mem_cons.1 hs with rfl | h1
  ·
   exact .inl (by simp)
  ·
   rcases h.done s h1 with h2 | h2 | h2
   ·
    exact .inl (List.mem_append_left _ h2)
   ·
    exact .inr (.inl h2)
   ·
    exact .inr (.inr fun i u v hu hv=>(h2 i u v hu hv).mono hm)
theorem SameJ.stop (h:SameJ p q S Wk t k) (hk:t.l.length≤k):SameI p q S Wk where
 start:=h.start
 wk:=h.wk
 len:=h.len
 back:=h.back
 done s hs:=by
  rcases h.done s hs with h2 | h2 | h2
  ·
   exact .inl h2
  ·
   subst h2
   exact .inr fun i x y hx hy=>h.part i x y (by have:=(List.getElem?_eq_some_iff.1 hx).1;omega) hx hy
  ·
   exact .inr h2
mutual
def nodesB:PB→Nat
 | .mk _ _ _ _ _ _ _ l=>1+nodesBL l
def nodesBL:List PB→Nat
 | []=>0
 | x :: r=>nodesB x+nodesBL r
end
theorem nodesB_eq (x:PB):nodesB x=1+nodesBL x.l:=by
 cases x
 rw [nodesB]
 rfl
theorem nodesBL_at:∀ {l:List PB} {i:Nat} {x:PB},l[i]?=some x→nodesB x≤nodesBL l
 | [],i,x,h=>by simp at h
 | y :: r,0,x,h=>by
  simp at h
  subst h
  rw [nodesBL]
  omega
 | y :: r,i+1,x,h=>by
  have:=nodesBL_at (l:=r) (i:=i) (x:=x) (by simpa using h)
  rw [nodesBL]
  omega
theorem SameI.all (h:SameI p q S []):∀ (n:Nat) (s:SW),s∈S→nodesBL s.l≤n→sameL s.l s.m=true:=by
 intro n
 induction n with
 | zero=>
  intro s hs hn
  rw [sameL_iff _ _ (h.len s hs)]
  intro i x y hx hy
  have:=nodesBL_at hx
  rw [nodesB_eq] at this
  omega
 | succ n ih=>
  intro s hs hn
  rw [sameL_iff _ _ (h.len s hs)]
  intro i x y hx hy
  rcases h.done s hs with h1 | h1
  ·
   cases h1
  ·
   obtain ⟨h2,h3⟩:=h1 i x y hx hy
   rw [sameB_eq,h2,Bool.true_and]
   rcases h3 with h3 | ⟨u,h4,h5,h6⟩
   ·
    have:=headB_len h2
    rw [h3] at this ⊢
    have hy0:y.l=[]:=List.length_eq_zero_iff.1 this.symm
    rw [hy0,sameL]
   ·
    rw [← h5,← h6]
    refine ih u h4 ?_
    have:=nodesBL_at hx
    rw [nodesB_eq] at this
    rw [h5]
    omega
theorem SameI.last (h:SameI p q S []):sameB p q=true:=by
 obtain ⟨s,h1,h2,h3⟩:=h.start
 have:=h.all _ s h1 (Nat.le_refl _)
 rw [h2,h3,sameL,Bool.and_eq_true] at this
 exact this.1
end
mutual
theorem uniB {w:World}:∀ (x y:PB),PMem w x→PMem w y→x.cells=y.cells→x=y
 | .mk op s num n vs a c l,.mk op' s' num' n' vs' a' c' l',h1,h2,e=>by
  simp only [PB.cells,PB.op,PB.s,PB.num,PB.n,PB.vs,PB.a,PB.c,PB.l,List.cons.injEq,Value.string.injEq,Value.bool.injEq,Value.slice.injEq] at e
  obtain ⟨e1,e2,e3,e4,e5,⟨e6,e7,e8⟩,_⟩:=e
  subst e1;subst e2;subst e3;subst e5;subst e6;subst e8
  cases e4
  cases h1 with
  | mk _ _ _ _ _ _ _ _ _ _ _ r1 m1=>
   cases h2 with
   | mk _ _ _ _ _ _ _ _ _ _ _ r2 m2=>
    rw [uniL l l' a e7 m1 m2 r1 r2]
theorem uniL {w:World}:∀ (l m:List PB) (a:Option Addr),l.length=m.length→(∀ x,x∈l→PMem w x)→(∀ x,x∈m→PMem w x)→Row w a 6 (l.map PB.cells)→Row w a 6 (m.map PB.cells)→l=m
 | [],[],_,_,_,_,_,_=>rfl
 | x :: r,y :: t,a,h,h1,h2,r1,r2=>by
  have e1:x.cells=y.cells:=by
   obtain ⟨b,o,e,_,c1⟩:=r1 0 (by simp)
   obtain ⟨b',o',e',_,c2⟩:=r2 0 (by simp)
   rw [e] at e'
   cases e'
   have key:∀ j,j < 6→x.cells[j]?=y.cells[j]?:=fun j hj=>by
    have q1:=c1 j hj
    have q2:=c2 j hj
    rw [q1] at q2
    simpa using q2
   refine List.ext_getElem? fun j=>?_
   by_cases hj:j < 6
   ·
    exact key j hj
   ·
    rw [List.getElem?_eq_none (by show x.cells.length≤j;simp [PB.cells];omega),List.getElem?_eq_none (by show y.cells.length≤j;simp [PB.cells];omega)]
  rw [uniB x y (h1 x List.mem_cons_self) (h2 y List.mem_cons_self) e1]
  congr 1
  obtain ⟨b,o,e,hb,c1⟩:=r1 0 (by simp)
  subst e
  refine uniL r t (some ⟨b,o+6,none⟩) (by simpa using h) (fun x hx=>h1 x (List.mem_cons_of_mem _ hx)) (fun x hx=>h2 x (List.mem_cons_of_mem _ hx)) ?_ ?_
  ·
   intro i hi
   obtain ⟨b',o',e,hb',c⟩:=r1 (i+1) (by simpa using hi)
   cases e
   exact ⟨b,o+6,rfl,hb,fun j hj=>by
    have:=c j hj
    rw [show o+6+i*6+j=o+(i+1)*6+j by omega]
    exact this⟩
  ·
   intro i hi
   obtain ⟨b',o',e,hb',c⟩:=r2 (i+1) (by simpa using hi)
   cases e
   exact ⟨b,o+6,rfl,hb,fun j hj=>by
    have:=c j hj
    rw [show o+6+i*6+j=o+(i+1)*6+j by omega]
    exact this⟩
 | [],_ :: _,_,h,_,_,_,_=>by simp at h
 | _ :: _,[],_,h,_,_,_,_=>by simp at h
end
end Tryst
namespace Tryst
open Go Go.Lib
def cutC (c:UInt8):List UInt8→Option (List UInt8 × List UInt8)
 | []=>none
 | x :: r=>if x=c then some ([],r) else (cutC c r).map fun p=>(x :: p.1,p.2)
theorem cutC_some {c:UInt8}:∀ {s a b:List UInt8},cutC c s=some (a,b)→s=a++c :: b∧c ∉ a
 | [],a,b,h=>by simp [cutC] at h
 | x :: r,a,b,h=>by
  rw [cutC] at h
  by_cases hx:x=c
  ·
   rw [if_pos hx] at h
   cases h
   exact ⟨by rw [hx];rfl,by simp⟩
  ·
   rw [if_neg hx] at h
   obtain ⟨⟨a',b'⟩,h1,h2⟩:=Option.map_eq_some_iff.1 h
   cases h2
   obtain ⟨h3,h4⟩:=cutC_some h1
   exact ⟨by rw [h3];rfl,by simp [h4];exact fun e=>hx e.symm⟩
theorem cutC_at {c:UInt8}:∀ {a:List UInt8} (b:List UInt8),c ∉ a→cutC c (a++c :: b)=some (a,b)
 | [],b,_=>by rw [List.nil_append,cutC,if_pos rfl]
 | x :: a,b,h=>by
  rw [List.cons_append,cutC,if_neg (fun e=>h (by simp [e])),cutC_at b (fun e=>h (List.mem_cons_of_mem _ e))]
  rfl
theorem cutC_mem {c x:UInt8} {a b f r:List UInt8} (h:cutC c (a++x :: b)=some (f,r)) (hc:c ∉ a) (hx:x≠c):x∈f:=by
 induction a generalizing f r with
 | nil=>
  rw [List.nil_append,cutC,if_neg hx] at h
  obtain ⟨⟨a',b'⟩,h1,h2⟩:=Option.map_eq_some_iff.1 h
  cases h2
  simp
 | cons y a ih=>
  rw [List.cons_append,cutC,if_neg (fun e=>hc (by simp [e]))] at h
  obtain ⟨⟨a',b'⟩,h1,h2⟩:=Option.map_eq_some_iff.1 h
  cases h2
  exact List.mem_cons_of_mem _ (ih h1 (fun e=>hc (List.mem_cons_of_mem _ e)))
theorem pre_iff {w s:List UInt8}:hasPrefix s w=true↔∃ r,s=w++r:=by
 unfold hasPrefix
 rw [List.isPrefixOf_iff_prefix]
 exact ⟨fun ⟨r,h⟩=>⟨r,h.symm⟩,fun ⟨r,h⟩=>⟨r,h.symm⟩⟩
theorem pre_app (w r:List UInt8):hasPrefix (w++r) w=true:=pre_iff.2 ⟨r,rfl⟩
def leafP (k:Opk) (s:List UInt8) (v:V):Pr:=.mk k.text ⟨s.toArray⟩ v.num v.n ⟨v.s.toArray⟩ []
def nodeP (k:Opk) (l:List Pr):Pr:=.mk k.text ⟨#[]⟩ false 0 ⟨#[]⟩ l
def cmpV (k:Opk) (f t:List UInt8):Option (Pr × List UInt8):=
 if (readV t).2=0 then none else match t.drop (readV t).2 with
  | []=>none
  | c :: u=>if c=41 then some (leafP k f (readV t).1,u) else none
def cmpP (s:List UInt8):Option (Pr × List UInt8):=
 match cutC 32 s with
 | none=>none
 | some (f,r)=>if fieldB f=true then (if hasPrefix r [61,32]=true then cmpV .eq f (r.drop 2) else if hasPrefix r [60,32]=true then cmpV .lt f (r.drop 2) else none) else none
def joinP (u:List UInt8):Option (Opk × List UInt8):=
 if hasPrefix u [32,97,110,100,32]=true then some (.and,u.drop 5) else if hasPrefix u [32,111,114,32]=true then some (.or,u.drop 4) else none
def closeP (k:Opk) (l:List Pr):List UInt8→Option (Pr × List UInt8)
 | []=>none
 | c :: z=>if c=41 then some (nodeP k l,z) else none
def secondP (f:List UInt8→Option (Pr × List UInt8)) (p:Pr) (x:Opk × List UInt8):Option (Pr × List UInt8):=
 match f x.2 with
 | none=>none
 | some (q,z)=>closeP x.1 [p,q] z
def innerP (f:List UInt8→Option (Pr × List UInt8)) (r:List UInt8):Option (Pr × List UInt8):=
 match cmpP r with
 | some x=>some x
 | none=>if hasPrefix r [110,111,116,32]=true then (match f (r.drop 4) with
   | none=>none
   | some (p,z)=>closeP .not [p] z)
  else match f r with
   | none=>none
   | some (p,u)=>match joinP u with
    | none=>none
    | some x=>secondP f p x
def headP (f:List UInt8→Option (Pr × List UInt8)) (s:List UInt8):Option (Pr × List UInt8):=
 if hasPrefix s [97,108,108]=true then some (nodeP .all [],s.drop 3)
 else if hasPrefix s [116,111,112,105,99,40]=true then (cutC 41 (s.drop 6)).map fun p=>(leafP .topic p.1 V.zero,p.2)
 else if hasPrefix s [104,97,115,40]=true then (cutC 41 (s.drop 4)).map fun p=>(leafP .has p.1 V.zero,p.2)
 else if hasPrefix s [40]=true then innerP f (s.drop 1)
 else none
def firstP:Nat→List UInt8→Option (Pr × List UInt8)
 | 0=>fun _=>none
 | d+1=>headP (firstP d)
mutual
def pText:Pr→List UInt8
 | .mk op s num n vs l=>match opk op with
  | none=>[]
  | some .all=>[97,108,108]
  | some .topic=>[116,111,112,105,99,40]++(s.data.toList++[41])
  | some .has=>[104,97,115,40]++(s.data.toList++[41])
  | some .eq=>40 :: (s.data.toList++32 :: 61 :: 32 :: (V.write ⟨num,n,vs.data.toList⟩++[41]))
  | some .lt=>40 :: (s.data.toList++32 :: 60 :: 32 :: (V.write ⟨num,n,vs.data.toList⟩++[41]))
  | some .not=>40 :: 110 :: 111 :: 116 :: 32 :: ((pTextL l)[0]?.getD []++[41])
  | some .and=>40 :: ((pTextL l)[0]?.getD []++32 :: 97 :: 110 :: 100 :: 32 :: ((pTextL l)[1]?.getD []++[41]))
  | some .or=>40 :: ((pTextL l)[0]?.getD []++32 :: 111 :: 114 :: 32 :: ((pTextL l)[1]?.getD []++[41]))
def pTextL:List Pr→List (List UInt8)
 | []=>[]
 | x :: r=>pText x :: pTextL r
end
theorem text_at (k:Opk) (s:ByteArray) (num:Bool) (n:Int) (vs:ByteArray) (l:List Pr):pText (.mk k.text s num n vs l)=match k with
  | .all=>[97,108,108]
  | .topic=>[116,111,112,105,99,40]++(s.data.toList++[41])
  | .has=>[104,97,115,40]++(s.data.toList++[41])
  | .eq=>40 :: (s.data.toList++32 :: 61 :: 32 :: (V.write ⟨num,n,vs.data.toList⟩++[41]))
  | .lt=>40 :: (s.data.toList++32 :: 60 :: 32 :: (V.write ⟨num,n,vs.data.toList⟩++[41]))
  | .not=>40 :: 110 :: 111 :: 116 :: 32 :: ((pTextL l)[0]?.getD []++[41])
  | .and=>40 :: ((pTextL l)[0]?.getD []++32 :: 97 :: 110 :: 100 :: 32 :: ((pTextL l)[1]?.getD []++[41]))
  | .or=>40 :: ((pTextL l)[0]?.getD []++32 :: 111 :: 114 :: 32 :: ((pTextL l)[1]?.getD []++[41])):=by
 rw [pText,opk_text]
 cases k<;>rfl
theorem cmp_text {s u:List UInt8} {p:Pr} (h:cmpP s=some (p,u)):40 :: s=pText p++u:=by
 unfold cmpP at h
 split at h
 ·
  cases h
 ·
  rename_i f r hc
  obtain ⟨rfl,_⟩:=cutC_some hc
  split at h
  ·
   have key:∀ (k:Opk) (c:UInt8),(k=.eq∧c=61∨k=.lt∧c=60)→hasPrefix r [c,32]=true→cmpV k f (r.drop 2)=some (p,u)→40 :: (f++32 :: r)=pText p++u:=by
    intro k c hk hp h
    obtain ⟨t,rfl⟩:=pre_iff.1 hp
    have hd:([c,32]++t).drop 2=t:=rfl
    rw [hd] at h
    unfold cmpV at h
    split at h
    ·
     cases h
    ·
     rename_i h0
     split at h
     ·
      cases h
     ·
      rename_i c' u' hdr
      split at h
      ·
       rename_i h41
       subst h41
       cases h
       obtain ⟨_,_,_,hw⟩:=read_ok (v:=(readV t).1) (k:=(readV t).2) rfl h0
       have ht:t=(readV t).1.write++41 :: u:=by rw [← hw,← hdr,List.take_append_drop]
       unfold leafP
       rw [text_at]
       have hv:(⟨(readV t).1.num,(readV t).1.n,(readV t).1.s⟩:V)=(readV t).1:=rfl
       rcases hk with ⟨rfl,rfl⟩ | ⟨rfl,rfl⟩
       ·
        simp only [hv]
        conv=>lhs;rw [ht]
        simp
       ·
        simp only [hv]
        conv=>lhs;rw [ht]
        simp
      ·
       cases h
   split at h
   ·
    rename_i hp
    exact key .eq 61 (.inl ⟨rfl,rfl⟩) hp h
   ·
    split at h
    ·
     rename_i hp
     exact key .lt 60 (.inr ⟨rfl,rfl⟩) hp h
    ·
     cases h
  ·
   cases h
theorem close_text {k:Opk} {l:List Pr} {z u:List UInt8} {p:Pr} (h:closeP k l z=some (p,u)):p=nodeP k l∧z=41 :: u:=by
 cases z with
 | nil=>cases h
 | cons c z=>
  rw [closeP] at h
  split at h
  ·
   rename_i hc
   cases h
   exact ⟨rfl,by rw [hc]⟩
  ·
   cases h
theorem join_text {u t:List UInt8} {k:Opk} (h:joinP u=some (k,t)):(k=.and∧u=32 :: 97 :: 110 :: 100 :: 32 :: t)∨(k=.or∧u=32 :: 111 :: 114 :: 32 :: t):=by
 unfold joinP at h
 split at h
 ·
  rename_i hp
  obtain ⟨r,rfl⟩:=pre_iff.1 hp
  cases h
  exact .inl ⟨rfl,rfl⟩
 ·
  split at h
  ·
   rename_i hp
   obtain ⟨r,rfl⟩:=pre_iff.1 hp
   cases h
   exact .inr ⟨rfl,rfl⟩
  ·
   cases h
theorem first_text:∀ (d:Nat) (s:List UInt8) (p:Pr) (r:List UInt8),firstP d s=some (p,r)→s=pText p++r:=by
 intro d
 induction d with
 | zero=>intro s p r h;cases h
 | succ d ih=>
  intro s p r h
  rw [firstP] at h
  unfold headP at h
  split at h
  ·
   rename_i hp
   obtain ⟨t,rfl⟩:=pre_iff.1 hp
   cases h
   unfold nodeP
   rw [text_at]
   rfl
  split at h
  ·
   rename_i hp
   obtain ⟨t,rfl⟩:=pre_iff.1 hp
   obtain ⟨⟨a,b⟩,h1,h2⟩:=Option.map_eq_some_iff.1 h
   cases h2
   obtain ⟨h3,_⟩:=cutC_some h1
   unfold leafP
   rw [text_at]
   have h3:t=a++41 :: b:=h3
   rw [h3]
   simp
  split at h
  ·
   rename_i hp
   obtain ⟨t,rfl⟩:=pre_iff.1 hp
   obtain ⟨⟨a,b⟩,h1,h2⟩:=Option.map_eq_some_iff.1 h
   cases h2
   obtain ⟨h3,_⟩:=cutC_some h1
   unfold leafP
   rw [text_at]
   have h3:t=a++41 :: b:=h3
   rw [h3]
   simp
  split at h
  ·
   rename_i hp
   obtain ⟨t,rfl⟩:=pre_iff.1 hp
   have h:innerP (firstP d) t=some (p,r):=h
   show 40 :: t=_
   unfold innerP at h
   split at h
   ·
    rename_i x hc
    cases h
    exact cmp_text hc
   ·
    split at h
    ·
     rename_i hn
     obtain ⟨t',rfl⟩:=pre_iff.1 hn
     have hd:([110,111,116,32]++t').drop 4=t':=rfl
     rw [hd] at h
     split at h
     ·
      cases h
     ·
      rename_i q z hq
      obtain ⟨rfl,rfl⟩:=close_text h
      have:=ih _ _ _ hq
      unfold nodeP
      rw [text_at]
      rw [this]
      simp [pTextL]
    ·
     split at h
     ·
      cases h
     ·
      rename_i q u hq
      split at h
      ·
       cases h
      ·
       rename_i x hj
       obtain ⟨k,t'⟩:=x
       unfold secondP at h
       split at h
       ·
        cases h
       ·
        rename_i q2 z hq2
        obtain ⟨rfl,rfl⟩:=close_text h
        have h1:=ih _ _ _ hq
        have h2:=ih _ _ _ hq2
        have h3:t'=pText q2++41 :: r:=h2
        clear h2 hq2
        unfold nodeP
        rcases join_text hj with ⟨rfl,rfl⟩ | ⟨rfl,rfl⟩
        ·
         rw [text_at,h1,h3]
         simp [pTextL]
        ·
         rw [text_at,h1,h3]
         simp [pTextL]
  ·
   cases h
end Tryst
namespace Tryst
open Go Go.Lib
mutual
def fitsP:Pr→Prop
 | .mk _ _ _ n _ l=>(-9223372036854775808≤n∧n≤9223372036854775807)∧fitsL l
def fitsL:List Pr→Prop
 | []=>True
 | x :: r=>fitsP x∧fitsL r
end
theorem dots_mem:∀ {s:List UInt8} {c:UInt8},c∈s→c=46∨∃ p∈dots s,c∈p
 | [],c,h=>by cases h
 | x :: r,c,h=>by
  rw [dots_cons]
  by_cases hx:x=46
  ·
   rw [if_pos hx]
   rcases List.mem_cons.1 h with rfl | h
   ·
    exact .inl hx
   ·
    rcases dots_mem h with h | ⟨p,h1,h2⟩
    ·
     exact .inl h
    ·
     exact .inr ⟨p,List.mem_cons_of_mem _ h1,h2⟩
  ·
   rw [if_neg hx]
   rcases List.mem_cons.1 h with rfl | h
   ·
    right
    cases dots r with
    | nil=>exact ⟨_,List.mem_cons_self,by simp⟩
    | cons p ps=>exact ⟨_,List.mem_cons_self,by simp⟩
   ·
    rcases dots_mem h with h | ⟨p,h1,h2⟩
    ·
     exact .inl h
    ·
     right
     cases hd:dots r with
     | nil=>rw [hd] at h1;cases h1
     | cons q qs=>
      rw [hd] at h1
      rcases List.mem_cons.1 h1 with rfl | h1
      ·
       exact ⟨_,List.mem_cons_self,List.mem_cons_of_mem _ h2⟩
      ·
       exact ⟨p,List.mem_cons_of_mem _ h1,h2⟩
theorem part_char {p:List UInt8} {c:UInt8} (h:partB p=true) (hc:c∈p):partC c=true:=by
 unfold partB at h
 rw [Bool.and_eq_true,List.all_eq_true] at h
 exact h.2 c hc
theorem field_char {s:List UInt8} {c:UInt8} (h:fieldB s=true) (hc:c∈s):c=46∨partC c=true:=by
 unfold fieldB topicB at h
 simp only [Bool.and_eq_true,List.all_eq_true] at h
 rcases dots_mem hc with h1 | ⟨p,h1,h2⟩
 ·
  exact .inl h1
 ·
  exact .inr (part_char (h.2.2 p h1) h2)
theorem glob_char {s:List UInt8} {c:UInt8} (h:globB s=true) (hc:c∈s):c=46∨c=42∨partC c=true:=by
 unfold globB at h
 simp only [Bool.and_eq_true,List.all_eq_true] at h
 rcases dots_mem hc with h1 | ⟨p,h1,h2⟩
 ·
  exact .inl h1
 ·
  right
  have h3:=h.2 p h1
  unfold gpartB at h3
  simp only [Bool.or_eq_true,decide_eq_true_eq] at h3
  rcases h3 with rfl | rfl | h3
  ·
   left;simpa using h2
  ·
   left;simpa using h2
  ·
   exact .inr (part_char h3 h2)
theorem field_no {s:List UInt8} {c:UInt8} (h:fieldB s=true) (h1:c≠46) (h2:partC c=false):c ∉ s:=fun hc=>by
 rcases field_char h hc with e | e
 ·
  exact h1 e
 ·
  rw [h2] at e;cases e
theorem glob_no {s:List UInt8} {c:UInt8} (h:globB s=true) (h1:c≠46) (h3:c≠42) (h2:partC c=false):c ∉ s:=fun hc=>by
 rcases glob_char h hc with e | e | e
 ·
  exact h1 e
 ·
  exact h3 e
 ·
  rw [h2] at e;cases e
theorem itoa_char {z:Int} {c:UInt8} (h:c∈itoa z):c=45∨isDig c=true:=by
 unfold itoa at h
 split at h
 ·
  rcases List.mem_cons.1 h with h | h
  ·
   exact .inl h
  ·
   exact .inr (dec_digs _ c h)
 ·
  exact .inr (dec_digs _ c h)
theorem read_behind (v:V) (hm:v.May) (hf:v.Fits) (r:List UInt8):readV (v.write++41 :: r)=(v,v.write.length):=by
 obtain ⟨num,n,s⟩:=v
 unfold V.May at hm
 cases num with
 | true=>
  simp only [if_true] at hm
  subst hm
  simp only [V.write,if_true]
  obtain ⟨c,l,e,hc⟩:=itoa_head n
  have hlen:1≤(itoa n).length:=by rw [e];simp
  have hat:NumAt (itoa n++41 :: r) (itoa n).length n:=⟨hlen,by simp,hf,by rw [List.take_left'];rfl⟩
  rcases number_spec (itoa n++41 :: r) with ⟨_,h⟩ | ⟨h1,h2⟩
  ·
   exact absurd hat (h _ _)
  ·
   have h3:=h2 _ _ hat
   obtain ⟨g1,g2,g3,g4⟩:=h1
   have h5:(numberL (itoa n++41 :: r)).2=(itoa n).length:=by
    by_cases hlt:(itoa n).length < (numberL (itoa n++41 :: r)).2
    ·
     exfalso
     have hm:(41:UInt8)∈itoa (numberL (itoa n++41 :: r)).1:=by
      rw [← g4,List.mem_take_iff_getElem]
      exact ⟨(itoa n).length,by simp;omega,by simp⟩
     rcases itoa_char hm with h | h
     ·
      exact absurd h (by decide)
     ·
      exact absurd h (by decide)
    ·
     omega
   rw [h5,List.take_left' rfl] at g4
   have h7:=itoa_inj g4
   have h8:readV (itoa n++41 :: r)=if (numberL (itoa n++41 :: r)).2=0 then (V.zero,0) else (⟨true,(numberL (itoa n++41 :: r)).1,[]⟩,(numberL (itoa n++41 :: r)).2):=by
    conv=>lhs;rw [e]
    rw [List.cons_append]
    unfold readV
    simp only
    rw [if_neg hc,e,List.cons_append]
   rw [h8,h5,← h7,if_neg (by omega)]
 | false=>
  simp only [Bool.false_eq_true,if_false] at hm
  obtain ⟨rfl,hs⟩:=hm
  simp only [V.write,Bool.false_eq_true,if_false]
  unfold readV wr
  have e:34 :: (esc s++[34])++41 :: r=34 :: (esc s++34 :: (41 :: r)):=by simp
  rw [e]
  simp only [if_true]
  rw [txtF_esc s 0 (41 :: r) (by omega)]
  simp
theorem form_at {op s:ByteArray} {num:Bool} {n:Int} {vs:ByteArray} {l:List Pr} {d:Nat} (h:formP (.mk op s num n vs l) (d+1)=true):∃ k:Opk,op=k.text∧aloneK k s num n vs l.length=true∧formL l d=true:=by
 rw [formP] at h
 simp only [Bool.and_eq_true,Nat.add_sub_cancel] at h
 obtain ⟨-,h1,h2⟩:=h
 rcases op_cases op with ⟨k,rfl⟩ | ⟨h,_⟩
 ·
  rw [aloneB_at] at h1
  exact ⟨k,rfl,h1,h2⟩
 ·
  unfold aloneB at h1
  rw [h] at h1
  cases h1
theorem size_zero {s:ByteArray} (h:s.size=0):s=⟨#[]⟩:=by
 obtain ⟨a⟩:=s
 have:a=#[]:=Array.eq_empty_of_size_eq_zero h
 rw [this]
theorem noV_at {num:Bool} {n:Int} {vs:ByteArray} (h:noV num n vs=true):num=false∧n=0∧vs=⟨#[]⟩:=by
 unfold noV at h
 simp only [Bool.and_eq_true,Bool.not_eq_true',decide_eq_true_eq] at h
 exact ⟨h.1,h.2.1,size_zero h.2.2⟩
theorem text_shape {y:Pr} {d:Nat} (h:formP y d=true):pText y=[97,108,108]∨∃ pre t,pText y=pre++40 :: t∧(pre=[]∨pre=[116,111,112,105,99]∨pre=[104,97,115]):=by
 obtain ⟨op,s,num,n,vs,l⟩:=y
 cases d with
 | zero=>rw [formP] at h;simp at h
 | succ d=>
  obtain ⟨k,rfl,h1,h2⟩:=form_at h
  rw [text_at]
  cases k with
  | all=>exact .inl rfl
  | topic=>exact .inr ⟨[116,111,112,105,99],_,rfl,.inr (.inl rfl)⟩
  | has=>exact .inr ⟨[104,97,115],_,rfl,.inr (.inr rfl)⟩
  | eq=>exact .inr ⟨[],_,rfl,.inl rfl⟩
  | lt=>exact .inr ⟨[],_,rfl,.inl rfl⟩
  | not=>exact .inr ⟨[],_,rfl,.inl rfl⟩
  | and=>exact .inr ⟨[],_,rfl,.inl rfl⟩
  | or=>exact .inr ⟨[],_,rfl,.inl rfl⟩
theorem text_head {y:Pr} {d:Nat} (h:formP y d=true):∃ c t,pText y=c :: t∧(c=97∨c=116∨c=104∨c=40):=by
 rcases text_shape h with h | ⟨pre,t,h,rfl | rfl | rfl⟩
 ·
  exact ⟨_,_,h,.inl rfl⟩
 ·
  exact ⟨_,_,h,by decide⟩
 ·
  exact ⟨_,_,h,by decide⟩
 ·
  exact ⟨_,_,h,by decide⟩
theorem pre2_no {a b c:UInt8} {t:List UInt8} (h:c≠a):hasPrefix (c :: t) [a,b]=false:=by
 unfold hasPrefix
 rw [List.isPrefixOf_cons_cons]
 have:(a==c)=false:=by simpa using fun e=>h e.symm
 rw [this]
 rfl
theorem cmp_none {y:Pr} {d:Nat} (h:formP y d=true) (c:UInt8) (z:List UInt8) (h1:c≠61) (h2:c≠60):cmpP (pText y++32 :: c :: z)=none:=by
 rcases text_shape h with h | ⟨pre,t,h,hp⟩
 ·
  rw [h]
  unfold cmpP
  have e:cutC 32 ([97,108,108]++32 :: c :: z)=some ([97,108,108],c :: z):=cutC_at _ (by decide)
  rw [e]
  simp only [pre2_no h1,pre2_no h2]
  simp
 ·
  unfold cmpP
  split
  ·
   rfl
  ·
   rename_i f r hc
   rw [h,List.append_assoc,List.cons_append] at hc
   have hm:=cutC_mem hc (by rcases hp with rfl | rfl | rfl<;>decide) (by decide)
   rw [if_neg]
   intro hf
   exact field_no hf (by decide) (by decide) hm
theorem first_at:∀ (d:Nat) (p:Pr),formP p d=true→fitsP p→∀ r,firstP d (pText p++r)=some (p,r):=by
 intro d
 induction d with
 | zero=>
  intro p h
  obtain ⟨op,s,num,n,vs,l⟩:=p
  rw [formP] at h
  simp at h
 | succ d ih=>
  intro p h hft r
  obtain ⟨op,s,num,n,vs,l⟩:=p
  obtain ⟨k,rfl,h1,h2⟩:=form_at h
  rw [fitsP] at hft
  rw [text_at,firstP]
  have hnode:∀ {j:Nat},(decide (s.size=0)&&(noV num n vs&&decide (l.length=j)))=true→l.length=j∧(Pr.mk k.text s num n vs l)=nodeP k l:=by
   intro j h
   simp only [Bool.and_eq_true,decide_eq_true_eq] at h
   obtain ⟨q1,q2,q3⟩:=noV_at h.2.1
   exact ⟨h.2.2,by rw [size_zero h.1,q1,q2,q3];rfl⟩
  have hleaf:l.length=0→(Pr.mk k.text s num n vs l)=leafP k s.data.toList ⟨num,n,vs.data.toList⟩:=fun h=>by
   rw [List.length_eq_zero_iff.1 h]
   unfold leafP
   rw [show (⟨(s.data.toList).toArray⟩:ByteArray)=s from rfl,show (⟨(vs.data.toList).toArray⟩:ByteArray)=vs from rfl]
  cases k with
  | all=>
   obtain ⟨q1,q2⟩:=hnode h1
   rw [q2,List.length_eq_zero_iff.1 q1]
   unfold headP
   rw [if_pos (pre_app _ _)]
   rfl
  | topic=>
   simp only [aloneK,Bool.and_eq_true,decide_eq_true_eq] at h1
   rw [hleaf h1.2.2]
   obtain ⟨rfl,rfl,rfl⟩:=noV_at h1.2.1
   unfold headP
   rw [if_neg (by simp [hasPrefix,List.isPrefixOf]),List.append_assoc,if_pos (pre_app _ _)]
   show Option.map _ (cutC 41 ((s.data.toList++[41])++r))=_
   rw [List.append_assoc,List.singleton_append,cutC_at _ (glob_no h1.1 (by decide) (by decide) (by decide))]
   rfl
  | has=>
   simp only [aloneK,Bool.and_eq_true,decide_eq_true_eq] at h1
   rw [hleaf h1.2.2]
   obtain ⟨rfl,rfl,rfl⟩:=noV_at h1.2.1
   unfold headP
   rw [if_neg (by simp [hasPrefix,List.isPrefixOf]),if_neg (by simp [hasPrefix,List.isPrefixOf]),List.append_assoc,if_pos (pre_app _ _)]
   show Option.map _ (cutC 41 ((s.data.toList++[41])++r))=_
   rw [List.append_assoc,List.singleton_append,cutC_at _ (field_no h1.1 (by decide) (by decide))]
   rfl
  | eq=>
   simp only [aloneK,Bool.and_eq_true,decide_eq_true_eq,Go.Proofs.YtcbicdencgjfiaaGreatDoor.V.mayB] at h1
   rw [hleaf h1.2.2]
   unfold headP
   rw [if_neg (by simp [hasPrefix,List.isPrefixOf]),if_neg (by simp [hasPrefix,List.isPrefixOf]),if_neg (by simp [hasPrefix,List.isPrefixOf]),if_pos (by simp [hasPrefix,List.isPrefixOf])]
   unfold innerP
   have e:cmpP (List.drop 1 (40 :: (s.data.toList++32 :: 61 :: 32 :: (V.write ⟨num,n,vs.data.toList⟩++[41]))++r))=some (leafP .eq s.data.toList ⟨num,n,vs.data.toList⟩,r):=by
    rw [List.cons_append,List.drop_succ_cons,List.drop_zero,List.append_assoc,List.cons_append,List.cons_append,List.cons_append,List.append_assoc,List.singleton_append]
    unfold cmpP
    rw [cutC_at _ (field_no h1.1 (by decide) (by decide))]
    simp only [h1.1,if_true]
    rw [if_pos (by simp [hasPrefix,List.isPrefixOf])]
    unfold cmpV
    rw [List.drop_succ_cons,List.drop_succ_cons,List.drop_zero,read_behind _ h1.2.1 hft.1]
    have hne:(V.write ⟨num,n,vs.data.toList⟩).length≠0:=by
     unfold V.write
     split
     ·
      have:=itoa_ne n
      intro e
      exact this (List.length_eq_zero_iff.1 e)
     ·
      simp [wr]
    simp only [hne,if_false,List.drop_left,if_true]
   rw [e]
  | lt=>
   simp only [aloneK,Bool.and_eq_true,decide_eq_true_eq,Go.Proofs.YtcbicdencgjfiaaGreatDoor.V.mayB] at h1
   rw [hleaf h1.2.2]
   unfold headP
   rw [if_neg (by simp [hasPrefix,List.isPrefixOf]),if_neg (by simp [hasPrefix,List.isPrefixOf]),if_neg (by simp [hasPrefix,List.isPrefixOf]),if_pos (by simp [hasPrefix,List.isPrefixOf])]
   unfold innerP
   have e:cmpP (List.drop 1 (40 :: (s.data.toList++32 :: 60 :: 32 :: (V.write ⟨num,n,vs.data.toList⟩++[41]))++r))=some (leafP .lt s.data.toList ⟨num,n,vs.data.toList⟩,r):=by
    rw [List.cons_append,List.drop_succ_cons,List.drop_zero,List.append_assoc,List.cons_append,List.cons_append,List.cons_append,List.append_assoc,List.singleton_append]
    unfold cmpP
    rw [cutC_at _ (field_no h1.1 (by decide) (by decide))]
    simp only [h1.1,if_true]
    rw [if_neg (by simp [hasPrefix,List.isPrefixOf]),if_pos (by simp [hasPrefix,List.isPrefixOf])]
    unfold cmpV
    rw [List.drop_succ_cons,List.drop_succ_cons,List.drop_zero,read_behind _ h1.2.1 hft.1]
    have hne:(V.write ⟨num,n,vs.data.toList⟩).length≠0:=by
     unfold V.write
     split
     ·
      have:=itoa_ne n
      intro e
      exact this (List.length_eq_zero_iff.1 e)
     ·
      simp [wr]
    simp only [hne,if_false,List.drop_left,if_true]
   rw [e]
  | not=>
   obtain ⟨q1,q2⟩:=hnode h1
   obtain ⟨y,rfl⟩:=List.length_eq_one_iff.1 q1
   rw [q2]
   have hy:formP y d=true:=by simpa [formL] using h2
   have fy:fitsP y:=by
    have:=hft.2
    rw [fitsL] at this
    exact this.1
   unfold headP
   rw [if_neg (by simp [hasPrefix,List.isPrefixOf]),if_neg (by simp [hasPrefix,List.isPrefixOf]),if_neg (by simp [hasPrefix,List.isPrefixOf]),if_pos (by simp [hasPrefix,List.isPrefixOf])]
   have e0:List.drop 1 (40 :: 110 :: 111 :: 116 :: 32 :: ((pTextL [y])[0]?.getD []++[41])++r)=[110,111,116]++32 :: (pText y++41 :: r):=by simp [pTextL]
   rw [e0]
   obtain ⟨c,t,hc,hcc⟩:=text_head hy
   have e:cmpP ([110,111,116]++32 :: (pText y++41 :: r))=none:=by
    unfold cmpP
    rw [cutC_at _ (by decide),hc]
    simp only [List.cons_append]
    rw [pre2_no (by rcases hcc with rfl | rfl | rfl | rfl<;>decide),pre2_no (by rcases hcc with rfl | rfl | rfl | rfl<;>decide)]
    simp
   unfold innerP
   rw [e]
   simp only
   rw [if_pos (by simp [hasPrefix,List.isPrefixOf])]
   have e1:List.drop 4 ([110,111,116]++32 :: (pText y++41 :: r))=pText y++41 :: r:=rfl
   rw [e1,ih y hy fy]
   rfl
  | and=>
   obtain ⟨q1,q2⟩:=hnode h1
   obtain ⟨y,z,rfl⟩:∃ y z,l=[y,z]:=by
    match l,q1 with
    | [y,z],_=>exact ⟨y,z,rfl⟩
   rw [q2]
   simp only [formL,Bool.and_eq_true,and_true] at h2
   have hft:=hft.2
   simp only [fitsL,and_true] at hft
   unfold headP
   obtain ⟨c,t,hc,hcc⟩:=text_head h2.1
   rw [if_neg (by simp [hasPrefix,List.isPrefixOf]),if_neg (by simp [hasPrefix,List.isPrefixOf]),if_neg (by simp [hasPrefix,List.isPrefixOf]),if_pos (by simp [hasPrefix,List.isPrefixOf])]
   have e0:List.drop 1 (40 :: ((pTextL [y,z])[0]?.getD []++32 :: 97 :: 110 :: 100 :: 32 :: ((pTextL [y,z])[1]?.getD []++[41]))++r)=pText y++32 :: 97 :: 110 :: 100 :: 32 :: (pText z++41 :: r):=by simp [pTextL]
   rw [e0]
   unfold innerP
   rw [cmp_none h2.1 97 _ (by decide) (by decide)]
   simp only
   rw [if_neg (by rw [hc];rcases hcc with rfl | rfl | rfl | rfl<;>simp [hasPrefix,List.isPrefixOf]),ih y h2.1 hft.1]
   have e2:joinP (32 :: 97 :: 110 :: 100 :: 32 :: (pText z++41 :: r))=some (.and,pText z++41 :: r):=by
    unfold joinP
    rw [if_pos (by simp [hasPrefix,List.isPrefixOf])]
    rfl
   simp only [e2]
   unfold secondP
   simp only
   rw [ih z h2.2 hft.2]
   rfl
  | or=>
   obtain ⟨q1,q2⟩:=hnode h1
   obtain ⟨y,z,rfl⟩:∃ y z,l=[y,z]:=by
    match l,q1 with
    | [y,z],_=>exact ⟨y,z,rfl⟩
   rw [q2]
   simp only [formL,Bool.and_eq_true,and_true] at h2
   have hft:=hft.2
   simp only [fitsL,and_true] at hft
   unfold headP
   obtain ⟨c,t,hc,hcc⟩:=text_head h2.1
   rw [if_neg (by simp [hasPrefix,List.isPrefixOf]),if_neg (by simp [hasPrefix,List.isPrefixOf]),if_neg (by simp [hasPrefix,List.isPrefixOf]),if_pos (by simp [hasPrefix,List.isPrefixOf])]
   have e0:List.drop 1 (40 :: ((pTextL [y,z])[0]?.getD []++32 :: 111 :: 114 :: 32 :: ((pTextL [y,z])[1]?.getD []++[41]))++r)=pText y++32 :: 111 :: 114 :: 32 :: (pText z++41 :: r):=by simp [pTextL]
   rw [e0]
   unfold innerP
   rw [cmp_none h2.1 111 _ (by decide) (by decide)]
   simp only
   rw [if_neg (by rw [hc];rcases hcc with rfl | rfl | rfl | rfl<;>simp [hasPrefix,List.isPrefixOf]),ih y h2.1 hft.1]
   have e2:joinP (32 :: 111 :: 114 :: 32 :: (pText z++41 :: r))=some (.or,pText z++41 :: r):=by
    unfold joinP
    rw [if_neg (by simp [hasPrefix,List.isPrefixOf]),if_pos (by simp [hasPrefix,List.isPrefixOf])]
    rfl
   simp only [e2]
   unfold secondP
   simp only
   rw [ih z h2.2 hft.2]
   rfl
mutual
theorem sameB_pr:∀ x y:PB,sameB x y=true↔x.pr=y.pr
 | .mk op s num n vs a c l,.mk op' s' num' n' vs' a' c' l'=>by
  rw [sameB,Bool.and_eq_true,sameL_pr l l',PB.pr,PB.pr]
  unfold headB
  simp only [Bool.and_eq_true,decide_eq_true_eq,Pr.mk.injEq]
  simp only [PB.op,PB.s,PB.num,PB.n,PB.vs,PB.l]
  constructor
  ·
   rintro ⟨⟨h1,h2,⟨h3,h4,h5⟩,h6⟩,h7⟩
   exact ⟨h1,h2,h3,h4,h5,h7⟩
  ·
   rintro ⟨h1,h2,h3,h4,h5,h7⟩
   refine ⟨⟨h1,h2,⟨h3,h4,h5⟩,?_⟩,h7⟩
   have:=congrArg List.length h7
   rw [PB.prs_len,PB.prs_len] at this
   exact this
theorem sameL_pr:∀ l m:List PB,sameL l m=true↔PB.prs l=PB.prs m
 | [],[]=>by rw [sameL];simp
 | x :: r,y :: t=>by
  rw [sameL,Bool.and_eq_true,sameB_pr x y,sameL_pr r t,PB.prs,PB.prs,List.cons.injEq]
 | [],_ :: _=>by rw [sameL,PB.prs,PB.prs];simp
 | _ :: _,[]=>by rw [sameL,PB.prs,PB.prs];simp
end
end Tryst
