import Derived.Test.YtcbicdencgjfiaaGreatDoorMay5
set_option linter.all false
namespace Tryst
open Go Go.RowKit
def zQT (x y:PB):Bool:=decide (x.op=y.op)&&(decide (x.s=y.s)&&((decide (x.num=y.num)&&(decide (x.n=y.n)&&decide (x.vs=y.vs)))&&decide (x.l.length=y.l.length)))
mutual
def qQY:PB->PB->Bool
 | .mk op s num n vs a c l,.mk op' s' num' n' vs' a' c' l'=>zQT (.mk op s num n vs a c l) (.mk op' s' num' n' vs' a' c' l')&&jQ7 l l'
def jQ7:List PB->List PB->Bool
 | [],[]=>true
 | x :: r,y :: t=>qQY x y&&jQ7 r t
 | [],_ :: _=>false
 | _ :: _,[]=>false
end
structure SW where
 a:Option Addr
 l:List PB
 c:Nat
 b:Option Addr
 m:List PB
 d:Nat
def SW.cells (s:SW):List Value:=[.slice s.a s.l.length s.c,.slice s.b s.m.length s.d]
section
variable {p q:PB} {S Wk:List SW} {t:SW} {k:Nat}
mutual
def J9:PB->Nat
 | .mk _ _ _ _ _ _ _ l=>1+Xz l
def Xz:List PB->Nat
 | []=>0
 | x :: r=>J9 x+Xz r
end
theorem vQm (x:PB):J9 x=1+Xz x.l:=by
 cases x;rw [J9];rfl
end
open Go.Lib
def cutC (c:UInt8):List UInt8->Option (List UInt8 × List UInt8)
 | []=>none
 | x :: r=>if x=c then some ([],r) else (cutC c r).map fun p=>(x :: p.1,p.2)
theorem Zy {c:UInt8}:∀ {s a b:List UInt8},cutC c s=some (a,b)->s=a++c :: b/\c ∉ a
 | [],a,b,h=>by simp [cutC] at h
 | x :: r,a,b,h=>by
  rw [cutC] at h
  by_cases hx:x=c
  · rw [if_pos hx] at h;cases h;exact ⟨by rw [hx];rfl,by simp⟩
  · rw [if_neg hx] at h;obtain ⟨⟨a',b'⟩,h1,h2⟩:=Option.map_eq_some_iff.1 h;cases h2;obtain ⟨h3,h4⟩:=Zy h1;exact ⟨by rw [h3];rfl,by simp [h4];exact fun e=>hx e.symm⟩
theorem jQs {c:UInt8}:∀ {a:List UInt8} (b:List UInt8),c ∉ a->cutC c (a++c :: b)=some (a,b)
 | [],b,_=>by rw [List.nil_append,cutC,if_pos rfl]
 | x :: a,b,h=>by
  rw [List.cons_append,cutC,if_neg (fun e=>h (by simp [e])),jQs b (fun e=>h (List.mem_cons_of_mem _ e))];rfl
theorem jJV {c x:UInt8} {a b f r:List UInt8} (h:cutC c (a++x :: b)=some (f,r)) (hc:c ∉ a) (hx:x≠c):x∈f:=by
 induction a generalizing f r with
 | nil=>
  rw [List.nil_append,cutC,if_neg hx] at h;obtain ⟨⟨a',b'⟩,h1,h2⟩:=Option.map_eq_some_iff.1 h;cases h2;simp
 | cons y a ih=>
  rw [List.cons_append,cutC,if_neg (fun e=>hc (by simp [e]))] at h;obtain ⟨⟨a',b'⟩,h1,h2⟩:=Option.map_eq_some_iff.1 h;cases h2;exact List.mem_cons_of_mem _ (ih h1 (fun e=>hc (List.mem_cons_of_mem _ e)))
theorem Jg {w s:List UInt8}:hasPrefix s w=true↔∃ r,s=w++r:=by
 unfold hasPrefix;rw [List.isPrefixOf_iff_prefix];exact ⟨fun ⟨r,h⟩=>⟨r,h.symm⟩,fun ⟨r,h⟩=>⟨r,h.symm⟩⟩
theorem kQn (w r:List UInt8):hasPrefix (w++r) w=true:=Jg.2 ⟨r,rfl⟩
def jQ8 (k:Opk) (s:List UInt8) (v:V):Pr:=.mk k.text ⟨s.toArray⟩ v.num v.n ⟨v.s.toArray⟩ []
def jQ6 (k:Opk) (l:List Pr):Pr:=.mk k.text ⟨#[]⟩ false 0 ⟨#[]⟩ l
def cmpV (k:Opk) (f t:List UInt8):Option (Pr × List UInt8):=
 if (J0 t).2=0 then none else match t.drop (J0 t).2 with
  | []=>none
  | c :: u=>if c=41 then some (jQ8 k f (J0 t).1,u) else none
def cmpP (s:List UInt8):Option (Pr × List UInt8):=
 match cutC 32 s with
 | none=>none
 | some (f,r)=>if Q5 f=true then (if hasPrefix r [61,32]=true then cmpV .eq f (r.drop 2) else if hasPrefix r [60,32]=true then cmpV .lt f (r.drop 2) else none) else none
def jQl (u:List UInt8):Option (Opk × List UInt8):=
 if hasPrefix u [32,97,110,100,32]=true then some (.and,u.drop 5) else if hasPrefix u [32,111,114,32]=true then some (.or,u.drop 4) else none
def Kx (k:Opk) (l:List Pr):List UInt8->Option (Pr × List UInt8)
 | []=>none
 | c :: z=>if c=41 then some (jQ6 k l,z) else none
def qQJ (f:List UInt8->Option (Pr × List UInt8)) (p:Pr) (x:Opk × List UInt8):Option (Pr × List UInt8):=
 match f x.2 with
 | none=>none
 | some (q,z)=>Kx x.1 [p,q] z
def qQN (f:List UInt8->Option (Pr × List UInt8)) (r:List UInt8):Option (Pr × List UInt8):=
 match cmpP r with
 | some x=>some x
 | none=>if hasPrefix r [110,111,116,32]=true then (match f (r.drop 4) with
   | none=>none
   | some (p,z)=>Kx .not [p] z)
  else match f r with
   | none=>none
   | some (p,u)=>match jQl u with
    | none=>none
    | some x=>qQJ f p x
def qQG (f:List UInt8->Option (Pr × List UInt8)) (s:List UInt8):Option (Pr × List UInt8):=
 if hasPrefix s [97,108,108]=true then some (jQ6 .all [],s.drop 3)
 else if hasPrefix s [116,111,112,105,99,40]=true then (cutC 41 (s.drop 6)).map fun p=>(jQ8 .topic p.1 V.zero,p.2)
 else if hasPrefix s [104,97,115,40]=true then (cutC 41 (s.drop 4)).map fun p=>(jQ8 .has p.1 V.zero,p.2)
 else if hasPrefix s [40]=true then qQN f (s.drop 1)
 else none
def Yy:Nat->List UInt8->Option (Pr × List UInt8)
 | 0=>fun _=>none
 | d+1=>qQG (Yy d)
mutual
def Yk:Pr->List UInt8
 | .mk op s num n vs l=>match opk op with
  | none=>[]
  | some .all=>[97,108,108]
  | some .topic=>[116,111,112,105,99,40]++(s.data.toList++[41])
  | some .has=>[104,97,115,40]++(s.data.toList++[41])
  | some .eq=>40 :: (s.data.toList++32 :: 61 :: 32 :: (V.write ⟨num,n,vs.data.toList⟩++[41]))
  | some .lt=>40 :: (s.data.toList++32 :: 60 :: 32 :: (V.write ⟨num,n,vs.data.toList⟩++[41]))
  | some .not=>40 :: 110 :: 111 :: 116 :: 32 :: ((Jz l)[0]?.getD []++[41])
  | some .and=>40 :: ((Jz l)[0]?.getD []++32 :: 97 :: 110 :: 100 :: 32 :: ((Jz l)[1]?.getD []++[41]))
  | some .or=>40 :: ((Jz l)[0]?.getD []++32 :: 111 :: 114 :: 32 :: ((Jz l)[1]?.getD []++[41]))
def Jz:List Pr->List (List UInt8)
 | []=>[]
 | x :: r=>Yk x :: Jz r
end
theorem jQ3 (k:Opk) (s:ByteArray) (num:Bool) (n:Int) (vs:ByteArray) (l:List Pr):Yk (.mk k.text s num n vs l)=match k with
  | .all=>[97,108,108]
  | .topic=>[116,111,112,105,99,40]++(s.data.toList++[41])
  | .has=>[104,97,115,40]++(s.data.toList++[41])
  | .eq=>40 :: (s.data.toList++32 :: 61 :: 32 :: (V.write ⟨num,n,vs.data.toList⟩++[41]))
  | .lt=>40 :: (s.data.toList++32 :: 60 :: 32 :: (V.write ⟨num,n,vs.data.toList⟩++[41]))
  | .not=>40 :: 110 :: 111 :: 116 :: 32 :: ((Jz l)[0]?.getD []++[41])
  | .and=>40 :: ((Jz l)[0]?.getD []++32 :: 97 :: 110 :: 100 :: 32 :: ((Jz l)[1]?.getD []++[41]))
  | .or=>40 :: ((Jz l)[0]?.getD []++32 :: 111 :: 114 :: 32 :: ((Jz l)[1]?.getD []++[41])):=by
 rw [Yk,xQi];cases k<;>rfl
theorem zJx {s u:List UInt8} {p:Pr} (h:cmpP s=some (p,u)):40 :: s=Yk p++u:=by
 unfold cmpP at h
 split at h
 · cases h
 ·
  rename_i f r hc;obtain ⟨rfl,_⟩:=Zy hc
  split at h
  ·
   have key:∀ (k:Opk) (c:UInt8),(k=.eq/\c=61∨k=.lt/\c=60)->hasPrefix r [c,32]=true->cmpV k f (r.drop 2)=some (p,u)->40 :: (f++32 :: r)=Yk p++u:=by
    intro k c hk hp h;obtain ⟨t,rfl⟩:=Jg.1 hp;have hd:([c,32]++t).drop 2=t:=rfl;rw [hd] at h;unfold cmpV at h
    split at h
    · cases h
    ·
     rename_i h0
     split at h
     · cases h
     ·
      rename_i c' u' hdr
      split at h
      ·
       rename_i h41;subst h41;cases h;obtain ⟨_,_,_,hw⟩:=qJc (v:=(J0 t).1) (k:=(J0 t).2) rfl h0;have ht:t=(J0 t).1.write++41 :: u:=by rw [<- hw,<- hdr,List.take_append_drop]
       unfold jQ8;rw [jQ3];have hv:(⟨(J0 t).1.num,(J0 t).1.n,(J0 t).1.s⟩:V)=(J0 t).1:=rfl
       rcases hk with ⟨rfl,rfl⟩ | ⟨rfl,rfl⟩
       ·
        simp only [hv]
        conv=>lhs;rw [ht]
        simp
       ·
        simp only [hv]
        conv=>lhs;rw [ht]
        simp
      · cases h
   split at h
   · rename_i hp;exact key .eq 61 (.inl ⟨rfl,rfl⟩) hp h
   ·
    split at h
    · rename_i hp;exact key .lt 60 (.inr ⟨rfl,rfl⟩) hp h
    · cases h
  · cases h
theorem jQ4 {k:Opk} {l:List Pr} {z u:List UInt8} {p:Pr} (h:Kx k l z=some (p,u)):p=jQ6 k l/\z=41 :: u:=by
 cases z with
 | nil=>cases h
 | cons c z=>
  rw [Kx] at h
  split at h
  · rename_i hc;cases h;exact ⟨rfl,by rw [hc]⟩
  · cases h
theorem vQp {u t:List UInt8} {k:Opk} (h:jQl u=some (k,t)):(k=.and/\u=32 :: 97 :: 110 :: 100 :: 32 :: t)∨(k=.or/\u=32 :: 111 :: 114 :: 32 :: t):=by
 unfold jQl at h
 split at h
 · rename_i hp;obtain ⟨r,rfl⟩:=Jg.1 hp;cases h;exact .inl ⟨rfl,rfl⟩
 ·
  split at h
  · rename_i hp;obtain ⟨r,rfl⟩:=Jg.1 hp;cases h;exact .inr ⟨rfl,rfl⟩
  · cases h
theorem vQS:∀ (d:Nat) (s:List UInt8) (p:Pr) (r:List UInt8),Yy d s=some (p,r)->s=Yk p++r:=by
 intro d
 induction d with
 | zero=>intro s p r h;cases h
 | succ d ih=>
  intro s p r h;rw [Yy] at h;unfold qQG at h
  split at h
  · rename_i hp;obtain ⟨t,rfl⟩:=Jg.1 hp;cases h;unfold jQ6;rw [jQ3];rfl
  split at h
  · rename_i hp;obtain ⟨t,rfl⟩:=Jg.1 hp;obtain ⟨⟨a,b⟩,h1,h2⟩:=Option.map_eq_some_iff.1 h;cases h2;obtain ⟨h3,_⟩:=Zy h1;unfold jQ8;rw [jQ3];have h3:t=a++41 :: b:=h3;rw [h3];simp
  split at h
  · rename_i hp;obtain ⟨t,rfl⟩:=Jg.1 hp;obtain ⟨⟨a,b⟩,h1,h2⟩:=Option.map_eq_some_iff.1 h;cases h2;obtain ⟨h3,_⟩:=Zy h1;unfold jQ8;rw [jQ3];have h3:t=a++41 :: b:=h3;rw [h3];simp
  split at h
  ·
   rename_i hp;obtain ⟨t,rfl⟩:=Jg.1 hp;have h:qQN (Yy d) t=some (p,r):=h;show 40 :: t=_;unfold qQN at h
   split at h
   · rename_i x hc;cases h;exact zJx hc
   ·
    split at h
    ·
     rename_i hn;obtain ⟨t',rfl⟩:=Jg.1 hn;have hd:([110,111,116,32]++t').drop 4=t':=rfl;rw [hd] at h
     split at h
     · cases h
     · rename_i q z hq;obtain ⟨rfl,rfl⟩:=jQ4 h;have:=ih _ _ _ hq;unfold jQ6;rw [jQ3];rw [this];simp [Jz]
    ·
     split at h
     · cases h
     ·
      rename_i q u hq
      split at h
      · cases h
      ·
       rename_i x hj;obtain ⟨k,t'⟩:=x;unfold qQJ at h
       split at h
       · cases h
       ·
        rename_i q2 z hq2;obtain ⟨rfl,rfl⟩:=jQ4 h;have h1:=ih _ _ _ hq;have h2:=ih _ _ _ hq2;have h3:t'=Yk q2++41 :: r:=h2;clear h2 hq2;unfold jQ6
        rcases vQp hj with ⟨rfl,rfl⟩ | ⟨rfl,rfl⟩
        · rw [jQ3,h1,h3];simp [Jz]
        · rw [jQ3,h1,h3];simp [Jz]
  · cases h
end Tryst
namespace Tryst
open Go Go.Lib
mutual
def Zb:Pr->Prop
 | .mk _ _ _ n _ l=>(-9223372036854775808<=n/\n<=9223372036854775807)/\jQc l
def jQc:List Pr->Prop
 | []=>True
 | x :: r=>Zb x/\jQc r
end
theorem zQ8:∀ {s:List UInt8} {c:UInt8},c∈s->c=46∨∃ p∈dots s,c∈p
 | [],c,h=>by cases h
 | x :: r,c,h=>by
  rw [qQZ]
  by_cases hx:x=46
  ·
   rw [if_pos hx]
   rcases List.mem_cons.1 h with rfl | h
   · exact .inl hx
   ·
    rcases zQ8 h with h | ⟨p,h1,h2⟩
    · exact .inl h
    · exact .inr ⟨p,List.mem_cons_of_mem _ h1,h2⟩
  ·
   rw [if_neg hx]
   rcases List.mem_cons.1 h with rfl | h
   ·
    right
    cases dots r with
    | nil=>exact ⟨_,List.mem_cons_self,by simp⟩
    | cons p ps=>exact ⟨_,List.mem_cons_self,by simp⟩
   ·
    rcases zQ8 h with h | ⟨p,h1,h2⟩
    · exact .inl h
    ·
     right
     cases hd:dots r with
     | nil=>rw [hd] at h1;cases h1
     | cons q qs=>
      rw [hd] at h1
      rcases List.mem_cons.1 h1 with rfl | h1
      · exact ⟨_,List.mem_cons_self,List.mem_cons_of_mem _ h2⟩
      · exact ⟨p,List.mem_cons_of_mem _ h1,h2⟩
theorem vQc {p:List UInt8} {c:UInt8} (h:Z1 p=true) (hc:c∈p):qQE c=true:=by
 unfold Z1 at h;rw [Bool.and_eq_true,List.all_eq_true] at h;exact h.2 c hc
theorem qJ2 {s:List UInt8} {c:UInt8} (h:Q5 s=true) (hc:c∈s):c=46∨qQE c=true:=by
 unfold Q5 Yx at h;simp only [Bool.and_eq_true,List.all_eq_true] at h
 rcases zQ8 hc with h1 | ⟨p,h1,h2⟩
 · exact .inl h1
 · exact .inr (vQc (h.2.2 p h1) h2)
theorem qQV {s:List UInt8} {c:UInt8} (h:Q5 s=true) (h1:c≠46) (h2:qQE c=false):c ∉ s:=fun hc=>by
 rcases qJ2 h hc with e | e
 · exact h1 e
 · rw [h2] at e;cases e
theorem zQ2 {op s:ByteArray} {num:Bool} {n:Int} {vs:ByteArray} {l:List Pr} {d:Nat} (h:Kg (.mk op s num n vs l) (d+1)=true):∃ k:Opk,op=k.text/\Jj k s num n vs l.length=true/\jQL l d=true:=by
 rw [Kg] at h;simp only [Bool.and_eq_true,Nat.add_sub_cancel] at h;obtain ⟨-,h1,h2⟩:=h
 rcases jJM op with ⟨k,rfl⟩ | ⟨h,_⟩
 · rw [Yf] at h1;exact ⟨k,rfl,h1,h2⟩
 · unfold Z6 at h1;rw [h] at h1;cases h1
mutual
theorem zJu:∀ x y:PB,qQY x y=true↔x.pr=y.pr
 | .mk op s num n vs a c l,.mk op' s' num' n' vs' a' c' l'=>by
  rw [qQY,Bool.and_eq_true,vQF l l',PB.pr,PB.pr];unfold zQT;simp only [Bool.and_eq_true,decide_eq_true_eq,Pr.mk.injEq];simp only [PB.op,PB.s,PB.num,PB.n,PB.vs,PB.l]
  constructor
  · rintro ⟨⟨h1,h2,⟨h3,h4,h5⟩,h6⟩,h7⟩;exact ⟨h1,h2,h3,h4,h5,h7⟩
  · rintro ⟨h1,h2,h3,h4,h5,h7⟩;refine ⟨⟨h1,h2,⟨h3,h4,h5⟩,?_⟩,h7⟩;have:=congrArg List.length h7;rw [PB.prs_len,PB.prs_len] at this;exact this
theorem vQF:∀ l m:List PB,jQ7 l m=true↔PB.prs l=PB.prs m
 | [],[]=>by rw [jQ7];simp
 | x :: r,y :: t=>by
  rw [jQ7,Bool.and_eq_true,zJu x y,vQF r t,PB.prs,PB.prs,List.cons.injEq]
 | [],_ :: _=>by rw [jQ7,PB.prs,PB.prs];simp
 | _ :: _,[]=>by rw [jQ7,PB.prs,PB.prs];simp
end
end Tryst
namespace Tryst
open Go Go.Lib
abbrev Rd:=Option (Pr × (List UInt8 × Nat))
def lim (m:Nat):Option (Pr × List UInt8)->Rd
 | none=>none
 | some (p,u)=>if m+Q9 p<=40 then some (p,u,m+Q9 p) else none
def qQK (m:Nat):Option (Pr × List UInt8)->Rd
 | none=>none
 | some (p,u)=>some (p,u,m)
def jQ0 (s:List UInt8):List UInt8 × List UInt8:=(cutC 32 s).getD (s,[])
def twoN (f:Nat->List UInt8->Rd) (m:Nat) (s:List UInt8):Rd:=
 match f m s with
 | none=>none
 | some (p,u,m1)=>match jQl u with
  | none=>none
  | some (k,t)=>match f m1 t with
   | none=>none
   | some (q,z,m2)=>qQK m2 (Kx k [p,q] z)
def notN (f:Nat->List UInt8->Rd) (m:Nat) (s:List UInt8):Rd:=
 match f m s with
 | none=>none
 | some (p,z,m1)=>qQK m1 (Kx .not [p] z)
def qQz (f:Nat->List UInt8->Rd) (m:Nat) (s:List UInt8):Rd:=
 if Q5 (jQ0 s).1=true then
  (if hasPrefix (jQ0 s).2 [61,32]=true then qQK m (cmpV .eq (jQ0 s).1 ((jQ0 s).2.drop 2))
  else if hasPrefix (jQ0 s).2 [60,32]=true then qQK m (cmpV .lt (jQ0 s).1 ((jQ0 s).2.drop 2))
  else if (jQ0 s).1=[110,111,116] then notN f m (jQ0 s).2
  else twoN f m s)
 else twoN f m s
def kQP (f:Nat->List UInt8->Rd) (m:Nat) (s:List UInt8):Rd:=
 if hasPrefix s [97,108,108]=true then some (jQ6 .all [],s.drop 3,m)
 else if hasPrefix s [116,111,112,105,99,40]=true then qQK m ((cutC 41 (s.drop 6)).map fun p=>(jQ8 .topic p.1 V.zero,p.2))
 else if hasPrefix s [104,97,115,40]=true then qQK m ((cutC 41 (s.drop 4)).map fun p=>(jQ8 .has p.1 V.zero,p.2))
 else if hasPrefix s [40]=true then qQz f m (s.drop 1)
 else none
def parN:Nat->Nat->List UInt8->Rd
 | 0,_,_=>none
 | r+1,m,s=>if m < 40 then kQP (parN r) (m+1) s else none
theorem kQe (k:Opk) (f:List UInt8) (v:V):Q9 (jQ8 k f v)=1:=by
 unfold jQ8;rw [Q9,J3]
theorem qQ4 (k:Opk) (l:List Pr):Q9 (jQ6 k l)=1+J3 l:=by
 unfold jQ6;rw [Q9]
theorem zQl {m:Nat} (hm:m < 40) {x:Option (Pr × List UInt8)} (h:∀ p u,x=some (p,u)->Q9 p=1):qQK (m+1) x=lim m x:=by
 cases x with
 | none=>rfl
 | some y=>
  obtain ⟨p,u⟩:=y;have h1:=h p u rfl;show some _=if _ then _ else _
  rw [h1,if_pos (by omega)]
theorem zQx {k:Opk} {f t:List UInt8} {p:Pr} {u:List UInt8} (h:cmpV k f t=some (p,u)):Q9 p=1:=by
 unfold cmpV at h
 split at h
 · cases h
 ·
  split at h
  · cases h
  ·
   split at h
   · cases h;exact kQe _ _ _
   · cases h
theorem kJL (d:Nat):Yy d []=none:=by
 cases d<;>rfl
theorem jJg (d:Nat) {c:UInt8} {s:List UInt8} (h1:c≠97) (h2:c≠116) (h3:c≠104) (h4:c≠40):Yy d (c :: s)=none:=by
 have hp:∀ (x:UInt8) (l:List UInt8),c≠x->hasPrefix (c :: s) (x :: l)=false:=fun x l hx=>by
  cases e:hasPrefix (c :: s) (x :: l) with
  | false=>rfl
  | true=>
   obtain ⟨r,hr⟩:=Jg.1 e;cases hr;exact absurd rfl hx
 cases d with
 | zero=>rfl
 | succ d=>
  rw [Yy];unfold qQG;rw [hp 97 _ h1,hp 116 _ h2,hp 104 _ h3,hp 40 _ h4];simp
theorem qJH {d:Nat} {f r:List UInt8} (hf:Q5 f=true) {p:Pr} {u:List UInt8} (h:Yy d (f++32 :: r)=some (p,u)):∃ g,f=[97,108,108]++g/\u=g++32 :: r:=by
 have hno:(40:UInt8) ∉ f:=qQV hf (by decide) (by decide);have hno2:(32:UInt8) ∉ f:=qQV hf (by decide) (by decide);have hc:cutC 32 (f++32 :: r)=some (f,r):=jQs r hno2
 have key:∀ (a b:List UInt8),f++32 :: r=a++40 :: b->(32:UInt8) ∉ a->False:=fun a b e ha=>by
  rw [e] at hc;exact hno (jJV hc ha (by decide))
 cases d with
 | zero=>cases h
 | succ d=>
  rw [Yy] at h;unfold qQG at h
  split at h
  ·
   rename_i hp;obtain ⟨t,ht⟩:=Jg.1 hp;rw [ht] at h;cases h
   have h3:([97,108,108]:List UInt8) <+: f:=by
    refine List.prefix_of_prefix_length_le (l₃:=f++32 :: r) ⟨t,ht.symm⟩ ⟨32 :: r,rfl⟩ ?_
    rcases Nat.lt_or_ge f.length 3 with hl | hl
    ·
     exfalso
     have hx:(32:UInt8)∈([97,108,108]:List UInt8):=by
      have e1:(f++32 :: r)[f.length]?=some 32:=by simp
      rw [ht,List.getElem?_append_left (by simpa using hl)] at e1;exact List.mem_of_getElem? e1
     simp at hx
    · exact hl
   obtain ⟨g,hg⟩:=h3;refine ⟨g,hg.symm,?_⟩;rw [<- hg,List.append_assoc] at ht;exact (List.append_cancel_left ht).symm
  split at h
  · rename_i hp;obtain ⟨t,ht⟩:=Jg.1 hp;exact (key [116,111,112,105,99] t (by rw [ht];rfl) (by simp)).elim
  split at h
  · rename_i hp;obtain ⟨t,ht⟩:=Jg.1 hp;exact (key [104,97,115] t (by rw [ht];rfl) (by simp)).elim
  split at h
  · rename_i hp;obtain ⟨t,ht⟩:=Jg.1 hp;exact (key [] t (by rw [ht];rfl) (by simp)).elim
  · cases h
theorem qY7 (f : Nat -> List UInt8 -> Rd) (F : List UInt8 -> Option (Pr × List UInt8)) (hf : ∀ m s, f m s = lim m (F s)) (m : Nat) (s : List UInt8) (hm : m < 40) : twoN f (m + 1) s = lim m (match F s with
      | none=>none
      | some (p,u)=>match jQl u with
        | none=>none
        | some x=>qQJ F p x):=by
  unfold twoN;rw [hf]
  rcases hF:F s with _ | ⟨p,u⟩
  · rfl
  · show (match (if _ then _ else _:Rd) with | none=>none | some (p,u,m1)=>_)=_
    by_cases h1:m+1+Q9 p<=40
    · rw [if_pos h1]
      dsimp only
      rcases hj:jQl u with _ | ⟨k,t⟩
      · rfl
      · dsimp only
        rw [hf];unfold qQJ;dsimp only
        rcases hG:F t with _ | ⟨q,z⟩
        · rfl
        · show (match (if _ then _ else _:Rd) with | none=>none | some (q,z,m2)=>_)=_
          dsimp only
          by_cases h2:m+1+Q9 p+Q9 q<=40
          · rw [if_pos h2]
            dsimp only
            rcases hc:Kx k [p,q] z with _ | ⟨y,v⟩
            · rfl
            · obtain ⟨rfl,_⟩:=jQ4 hc
              show some _=if _ then _ else _
              have hn:m+Q9 (jQ6 k [p,q])=m+1+Q9 p+Q9 q:=by
                rw [qQ4,J3,J3,J3];omega
              rw [hn,if_pos h2]
          · rw [if_neg h2]
            dsimp only
            rcases hc:Kx k [p,q] z with _ | ⟨y,v⟩
            · rfl
            · obtain ⟨rfl,_⟩:=jQ4 hc
              show none=if _ then _ else _
              have hn:m+Q9 (jQ6 k [p,q])=m+1+Q9 p+Q9 q:=by
                rw [qQ4,J3,J3,J3];omega
              rw [hn,if_neg h2]
    · rw [if_neg h1]
      dsimp only
      rcases hj:jQl u with _ | ⟨k,t⟩
      · rfl
      · unfold qQJ
        dsimp only
        rcases hG:F t with _ | ⟨q,z⟩
        · rfl
        · dsimp only
          rcases hc:Kx k [p,q] z with _ | ⟨y,v⟩
          · rfl
          · obtain ⟨rfl,_⟩:=jQ4 hc
            show none=if _ then _ else _
            rw [qQ4,J3,J3,J3,if_neg (by omega)]
theorem zJN (f : Nat -> List UInt8 -> Rd) (F : List UInt8 -> Option (Pr × List UInt8)) (hf : ∀ m s, f m s = lim m (F s)) (m : Nat) (s : List UInt8) (hm : m < 40) : notN f (m + 1) s = lim m (match F s with
      | none=>none
      | some (p,z)=>Kx .not [p] z):=by
  unfold notN;rw [hf]
  rcases hF:F s with _ | ⟨p,z⟩
  · rfl
  · show (match (if _ then _ else _:Rd) with | none=>none | some (p,z,m1)=>_)=_
    dsimp only
    have hn:m+Q9 (jQ6 .not [p])=m+1+Q9 p:=by
      rw [qQ4,J3,J3];omega
    by_cases h1:m+1+Q9 p<=40
    · rw [if_pos h1]
      dsimp only
      rcases hc:Kx .not [p] z with _ | ⟨y,v⟩
      · rfl
      · obtain ⟨rfl,_⟩:=jQ4 hc
        show some _=if _ then _ else _
        rw [hn,if_pos h1]
    · rw [if_neg h1]
      dsimp only
      rcases hc:Kx .not [p] z with _ | ⟨y,v⟩
      · rfl
      · obtain ⟨rfl,_⟩:=jQ4 hc
        show none=if _ then _ else _
        rw [hn,if_neg h1]
theorem zQi {s:List UInt8} (h:hasPrefix s [110,111,116,32]=true):∃ r,s=[110,111,116]++32 :: r/\cutC 32 s=some ([110,111,116],r):=by
 obtain ⟨r,rfl⟩:=Jg.1 h;exact ⟨r,rfl,jQs (a:=[110,111,116]) r (by simp)⟩
theorem kJX:Q5 [110,111,116]=true:=by rfl
theorem zJc (d:Nat) (f:Nat->List UInt8->Rd) (hf:∀ m s,f m s=lim m (Yy d s)) (m:Nat) (s:List UInt8) (hm:m < 40):qQz f (m+1) s=lim m (qQN (Yy d) s):=by
 have h2:=qY7 f (Yy d) hf m s hm;unfold qQz qQN
 rcases hc:cutC 32 s with _ | ⟨w,r⟩
 ·
  have hw:jQ0 s=(s,[]):=by unfold jQ0;rw [hc];rfl
  have hp:hasPrefix s [110,111,116,32]≠true:=fun e=>by
   obtain ⟨_,_,h⟩:=zQi e;rw [hc] at h;cases h
  have hm0:cmpP s=none:=by unfold cmpP;rw [hc]
  rw [hw,hm0];dsimp only;rw [if_neg hp]
  by_cases hfs:Q5 s=true
  ·
   rw [if_pos hfs,if_neg (show ¬ hasPrefix [] [61,32]=true by decide),if_neg (show ¬ hasPrefix [] [60,32]=true by decide)]
   by_cases hs:s=[110,111,116]
   · rw [if_pos hs,hs,jJg d (by decide) (by decide) (by decide) (by decide),zJN f (Yy d) hf m [] hm,kJL]
   · rw [if_neg hs];exact h2
  · rw [if_neg hfs];exact h2
 ·
  have hw:jQ0 s=(w,r):=by unfold jQ0;rw [hc];rfl
  obtain ⟨hs,hno⟩:=Zy hc;rw [hw];dsimp only
  by_cases hfs:Q5 w=true
  ·
   rw [if_pos hfs];have hq:∀ (c:UInt8) (t:List UInt8),r=c :: t->c≠97->c≠111->c≠116->c≠104->c≠40->(if hasPrefix s [110,111,116,32]=true then (match Yy d (s.drop 4) with
   | none=>none
   | some (p,z)=>Kx .not [p] z)
  else match Yy d s with
   | none=>none
   | some (p,u)=>match jQl u with
    | none=>none
    | some x=>qQJ (Yy d) p x)=none:=fun c t hr ha ho ht hh hb=>by
    by_cases hp:hasPrefix s [110,111,116,32]=true
    · rw [if_pos hp];obtain ⟨r',e1,e2⟩:=zQi hp;rw [hc] at e2;cases e2;rw [e1];show (match Yy d r with | none=>none | some (p,z)=>_)=none;rw [hr,jJg d ha ht hh hb]
    ·
     rw [if_neg hp]
     rcases hF:Yy d s with _ | ⟨p,u⟩
     · rfl
     ·
      rw [hs] at hF;obtain ⟨g,hg,hu⟩:=qJH hfs hF;dsimp only
      have hj:jQl u=none:=by
       rcases hj:jQl u with _ | ⟨k,t'⟩
       · rfl
       ·
        exfalso
        have h3:∃ x,(x=97∨x=111)/\∃ v,u=32 :: x :: v:=by
         rcases vQp hj with ⟨_,e⟩ | ⟨_,e⟩
         · exact ⟨97,.inl rfl,_,e⟩
         · exact ⟨111,.inr rfl,_,e⟩
        obtain ⟨x,hx,v,hv⟩:=h3;rw [hu] at hv;cases g with
        | nil=>
         rw [hr] at hv;cases hv
         rcases hx with rfl | rfl
         · exact ha rfl
         · exact ho rfl
        | cons y g=>
         rw [List.cons_append,List.cons.injEq] at hv;exact hno (by rw [hg,hv.1];simp)
      rw [hj]
   unfold cmpP;rw [hc];dsimp only;rw [if_pos hfs]
   by_cases h61:hasPrefix r [61,32]=true
   ·
    rw [if_pos h61,if_pos h61];obtain ⟨t,ht⟩:=Jg.1 h61;rw [zQl hm (fun p u e=>zQx e)]
    rcases hcv:cmpV .eq w (r.drop 2) with _ | y
    · dsimp only;exact congrArg (lim m) (hq 61 (32 :: t) ht (by decide) (by decide) (by decide) (by decide) (by decide)).symm
    · rfl
   ·
    rw [if_neg h61,if_neg h61]
    by_cases h60:hasPrefix r [60,32]=true
    ·
     rw [if_pos h60,if_pos h60];obtain ⟨t,ht⟩:=Jg.1 h60;rw [zQl hm (fun p u e=>zQx e)]
     rcases hcv:cmpV .lt w (r.drop 2) with _ | y
     · dsimp only;exact congrArg (lim m) (hq 60 (32 :: t) ht (by decide) (by decide) (by decide) (by decide) (by decide)).symm
     · rfl
    ·
     rw [if_neg h60,if_neg h60];dsimp only
     by_cases hn:w=[110,111,116]
     · rw [if_pos hn];subst hn;have hp:hasPrefix s [110,111,116,32]=true:=Jg.2 ⟨r,hs⟩;rw [if_pos hp,show s.drop 4=r by rw [hs];rfl];exact zJN f (Yy d) hf m r hm
     ·
      rw [if_neg hn]
      have hp:¬ hasPrefix s [110,111,116,32]=true:=fun e=>by
       obtain ⟨_,_,h⟩:=zQi e;rw [hc] at h;cases h;exact hn rfl
      rw [if_neg hp];exact h2
  ·
   rw [if_neg hfs]
   have hp:¬ hasPrefix s [110,111,116,32]=true:=fun e=>by
    obtain ⟨_,_,h⟩:=zQi e;rw [hc] at h;cases h;exact hfs kJX
   have hm0:cmpP s=none:=by unfold cmpP;rw [hc];dsimp only;rw [if_neg hfs]
   rw [hm0];dsimp only;rw [if_neg hp];exact h2
theorem vJq:∀ (d m:Nat) (s:List UInt8),parN d m s=lim m (Yy d s):=by
 intro d
 induction d with
 | zero=>intro m s;rfl
 | succ d ih=>
  intro m s;rw [parN,Yy]
  by_cases hm:m < 40
  ·
   rw [if_pos hm];unfold kQP qQG
   by_cases h1:hasPrefix s [97,108,108]=true
   ·
    rw [if_pos h1,if_pos h1];show _=if _ then _ else _
    rw [qQ4,J3,if_pos (by omega)]
   ·
    rw [if_neg h1,if_neg h1]
    by_cases h2:hasPrefix s [116,111,112,105,99,40]=true
    · rw [if_pos h2,if_pos h2];refine zQl hm (fun p u e=>?_);obtain ⟨a,_,ha⟩:=Option.map_eq_some_iff.1 e;cases ha;exact kQe _ _ _
    ·
     rw [if_neg h2,if_neg h2]
     by_cases h3:hasPrefix s [104,97,115,40]=true
     · rw [if_pos h3,if_pos h3];refine zQl hm (fun p u e=>?_);obtain ⟨a,_,ha⟩:=Option.map_eq_some_iff.1 e;cases ha;exact kQe _ _ _
     ·
      rw [if_neg h3,if_neg h3]
      by_cases h4:hasPrefix s [40]=true
      · rw [if_pos h4,if_pos h4];exact zJc d (parN d) ih m _ hm
      · rw [if_neg h4,if_neg h4];rfl
  ·
   rw [if_neg hm]
   rcases qQG (Yy d) s with _ | ⟨p,u⟩
   · rfl
   ·
    have:=qJF p;show _=if _ then _ else _
    rw [if_neg (by omega)]
