import Derived.Test.YtcbicdencgjfiaaGreatDoorMay5
set_option linter.all false
namespace Tryst
open Go Go.RowKit
def zQT (x y:PB):Bool:=decide (x.op=y.op)&&(decide (x.s=y.s)&&((decide (x.num=y.num)&&(decide (x.n=y.n)&&decide (x.vs=y.vs)))&&decide (x.l.length=y.l.length)))
mutual
def qQY:PB->PB->Bool
 | .mk op s num n vs a c l,.mk op' s' num' n' vs' a' c' l'=>zQT (.mk op s num n vs a c l) (.mk op' s' num' n' vs' a' c' l')&&jQ7 l l'
def jQ7:List PB->List PB->Bool
 | [],[]=>true
 | x :: r,y :: t=>qQY x y&&jQ7 r t
 | [],_ :: _=>false
 | _ :: _,[]=>false
end
theorem vQ2 (x y:PB):qQY x y=(zQT x y&&jQ7 x.l y.l):=by
 cases x;cases y;rw [qQY];rfl
theorem kQN:∀ (l m:List PB),l.length=m.length->(jQ7 l m=true↔∀ (i:Nat) (x y:PB),l[i]?=some x->m[i]?=some y->qQY x y=true)
 | [],[],_=>by rw [jQ7];simp
 | x :: r,y :: t,h=>by
  rw [jQ7,Bool.and_eq_true,kQN r t (by simpa using h)]
  constructor
  ·
   rintro ⟨h1,h2⟩ i u v hu hv;cases i with
   | zero=>
    simp at hu hv;subst hu;subst hv;exact h1
   | succ i=>exact h2 i u v (by simpa using hu) (by simpa using hv)
  · intro h;exact ⟨h 0 x y rfl rfl,fun i u v hu hv=>h (i+1) u v (by simpa using hu) (by simpa using hv)⟩
 | [],_ :: _,h=>by simp at h
 | _ :: _,[],h=>by simp at h
structure SW where
 a:Option Addr
 l:List PB
 c:Nat
 b:Option Addr
 m:List PB
 d:Nat
def SW.cells (s:SW):List Value:=[.slice s.a s.l.length s.c,.slice s.b s.m.length s.d]
section
variable {p q:PB} {S Wk:List SW} {t:SW} {k:Nat}
mutual
def J9:PB->Nat
 | .mk _ _ _ _ _ _ _ l=>1+Xz l
def Xz:List PB->Nat
 | []=>0
 | x :: r=>J9 x+Xz r
end
theorem vQm (x:PB):J9 x=1+Xz x.l:=by
 cases x;rw [J9];rfl
theorem kQT:∀ {l:List PB} {i:Nat} {x:PB},l[i]?=some x->J9 x<=Xz l
 | [],i,x,h=>by simp at h
 | y :: r,0,x,h=>by
  simp at h;subst h;rw [Xz];omega
 | y :: r,i+1,x,h=>by
  have:=kQT (l:=r) (i:=i) (x:=x) (by simpa using h);rw [Xz];omega
end
open Go.Lib
def cutC (c:UInt8):List UInt8->Option (List UInt8 × List UInt8)
 | []=>none
 | x :: r=>if x=c then some ([],r) else (cutC c r).map fun p=>(x :: p.1,p.2)
theorem Zy {c:UInt8}:∀ {s a b:List UInt8},cutC c s=some (a,b)->s=a++c :: b/\c ∉ a
 | [],a,b,h=>by simp [cutC] at h
 | x :: r,a,b,h=>by
  rw [cutC] at h
  by_cases hx:x=c
  · rw [if_pos hx] at h;cases h;exact ⟨by rw [hx];rfl,by simp⟩
  · rw [if_neg hx] at h;obtain ⟨⟨a',b'⟩,h1,h2⟩:=Option.map_eq_some_iff.1 h;cases h2;obtain ⟨h3,h4⟩:=Zy h1;exact ⟨by rw [h3];rfl,by simp [h4];exact fun e=>hx e.symm⟩
theorem jQs {c:UInt8}:∀ {a:List UInt8} (b:List UInt8),c ∉ a->cutC c (a++c :: b)=some (a,b)
 | [],b,_=>by rw [List.nil_append,cutC,if_pos rfl]
 | x :: a,b,h=>by
  rw [List.cons_append,cutC,if_neg (fun e=>h (by simp [e])),jQs b (fun e=>h (List.mem_cons_of_mem _ e))];rfl
theorem jJV {c x:UInt8} {a b f r:List UInt8} (h:cutC c (a++x :: b)=some (f,r)) (hc:c ∉ a) (hx:x≠c):x∈f:=by
 induction a generalizing f r with
 | nil=>
  rw [List.nil_append,cutC,if_neg hx] at h;obtain ⟨⟨a',b'⟩,h1,h2⟩:=Option.map_eq_some_iff.1 h;cases h2;simp
 | cons y a ih=>
  rw [List.cons_append,cutC,if_neg (fun e=>hc (by simp [e]))] at h;obtain ⟨⟨a',b'⟩,h1,h2⟩:=Option.map_eq_some_iff.1 h;cases h2;exact List.mem_cons_of_mem _ (ih h1 (fun e=>hc (List.mem_cons_of_mem _ e)))
theorem Jg {w s:List UInt8}:hasPrefix s w=true↔∃ r,s=w++r:=by
 unfold hasPrefix;rw [List.isPrefixOf_iff_prefix];exact ⟨fun ⟨r,h⟩=>⟨r,h.symm⟩,fun ⟨r,h⟩=>⟨r,h.symm⟩⟩
theorem kQn (w r:List UInt8):hasPrefix (w++r) w=true:=Jg.2 ⟨r,rfl⟩
def jQ8 (k:Opk) (s:List UInt8) (v:V):Pr:=.mk k.text ⟨s.toArray⟩ v.num v.n ⟨v.s.toArray⟩ []
def jQ6 (k:Opk) (l:List Pr):Pr:=.mk k.text ⟨#[]⟩ false 0 ⟨#[]⟩ l
def cmpV (k:Opk) (f t:List UInt8):Option (Pr × List UInt8):=
 if (J0 t).2=0 then none else match t.drop (J0 t).2 with
  | []=>none
  | c :: u=>if c=41 then some (jQ8 k f (J0 t).1,u) else none
def cmpP (s:List UInt8):Option (Pr × List UInt8):=
 match cutC 32 s with
 | none=>none
 | some (f,r)=>if Q5 f=true then (if hasPrefix r [61,32]=true then cmpV .eq f (r.drop 2) else if hasPrefix r [60,32]=true then cmpV .lt f (r.drop 2) else none) else none
def jQl (u:List UInt8):Option (Opk × List UInt8):=
 if hasPrefix u [32,97,110,100,32]=true then some (.and,u.drop 5) else if hasPrefix u [32,111,114,32]=true then some (.or,u.drop 4) else none
def Kx (k:Opk) (l:List Pr):List UInt8->Option (Pr × List UInt8)
 | []=>none
 | c :: z=>if c=41 then some (jQ6 k l,z) else none
def qQJ (f:List UInt8->Option (Pr × List UInt8)) (p:Pr) (x:Opk × List UInt8):Option (Pr × List UInt8):=
 match f x.2 with
 | none=>none
 | some (q,z)=>Kx x.1 [p,q] z
def qQN (f:List UInt8->Option (Pr × List UInt8)) (r:List UInt8):Option (Pr × List UInt8):=
 match cmpP r with
 | some x=>some x
 | none=>if hasPrefix r [110,111,116,32]=true then (match f (r.drop 4) with
   | none=>none
   | some (p,z)=>Kx .not [p] z)
  else match f r with
   | none=>none
   | some (p,u)=>match jQl u with
    | none=>none
    | some x=>qQJ f p x
def qQG (f:List UInt8->Option (Pr × List UInt8)) (s:List UInt8):Option (Pr × List UInt8):=
 if hasPrefix s [97,108,108]=true then some (jQ6 .all [],s.drop 3)
 else if hasPrefix s [116,111,112,105,99,40]=true then (cutC 41 (s.drop 6)).map fun p=>(jQ8 .topic p.1 V.zero,p.2)
 else if hasPrefix s [104,97,115,40]=true then (cutC 41 (s.drop 4)).map fun p=>(jQ8 .has p.1 V.zero,p.2)
 else if hasPrefix s [40]=true then qQN f (s.drop 1)
 else none
def Yy:Nat->List UInt8->Option (Pr × List UInt8)
 | 0=>fun _=>none
 | d+1=>qQG (Yy d)
mutual
def Yk:Pr->List UInt8
 | .mk op s num n vs l=>match opk op with
  | none=>[]
  | some .all=>[97,108,108]
  | some .topic=>[116,111,112,105,99,40]++(s.data.toList++[41])
  | some .has=>[104,97,115,40]++(s.data.toList++[41])
  | some .eq=>40 :: (s.data.toList++32 :: 61 :: 32 :: (V.write ⟨num,n,vs.data.toList⟩++[41]))
  | some .lt=>40 :: (s.data.toList++32 :: 60 :: 32 :: (V.write ⟨num,n,vs.data.toList⟩++[41]))
  | some .not=>40 :: 110 :: 111 :: 116 :: 32 :: ((Jz l)[0]?.getD []++[41])
  | some .and=>40 :: ((Jz l)[0]?.getD []++32 :: 97 :: 110 :: 100 :: 32 :: ((Jz l)[1]?.getD []++[41]))
  | some .or=>40 :: ((Jz l)[0]?.getD []++32 :: 111 :: 114 :: 32 :: ((Jz l)[1]?.getD []++[41]))
def Jz:List Pr->List (List UInt8)
 | []=>[]
 | x :: r=>Yk x :: Jz r
end
theorem jQ3 (k:Opk) (s:ByteArray) (num:Bool) (n:Int) (vs:ByteArray) (l:List Pr):Yk (.mk k.text s num n vs l)=match k with
  | .all=>[97,108,108]
  | .topic=>[116,111,112,105,99,40]++(s.data.toList++[41])
  | .has=>[104,97,115,40]++(s.data.toList++[41])
  | .eq=>40 :: (s.data.toList++32 :: 61 :: 32 :: (V.write ⟨num,n,vs.data.toList⟩++[41]))
  | .lt=>40 :: (s.data.toList++32 :: 60 :: 32 :: (V.write ⟨num,n,vs.data.toList⟩++[41]))
  | .not=>40 :: 110 :: 111 :: 116 :: 32 :: ((Jz l)[0]?.getD []++[41])
  | .and=>40 :: ((Jz l)[0]?.getD []++32 :: 97 :: 110 :: 100 :: 32 :: ((Jz l)[1]?.getD []++[41]))
  | .or=>40 :: ((Jz l)[0]?.getD []++32 :: 111 :: 114 :: 32 :: ((Jz l)[1]?.getD []++[41])):=by
 rw [Yk,xQi];cases k<;>rfl
theorem zJx {s u:List UInt8} {p:Pr} (h:cmpP s=some (p,u)):40 :: s=Yk p++u:=by
 unfold cmpP at h
 split at h
 · cases h
 ·
  rename_i f r hc;obtain ⟨rfl,_⟩:=Zy hc
  split at h
  ·
   have key:∀ (k:Opk) (c:UInt8),(k=.eq/\c=61∨k=.lt/\c=60)->hasPrefix r [c,32]=true->cmpV k f (r.drop 2)=some (p,u)->40 :: (f++32 :: r)=Yk p++u:=by
    intro k c hk hp h;obtain ⟨t,rfl⟩:=Jg.1 hp;have hd:([c,32]++t).drop 2=t:=rfl;rw [hd] at h;unfold cmpV at h
    split at h
    · cases h
    ·
     rename_i h0
     split at h
     · cases h
     ·
      rename_i c' u' hdr
      split at h
      ·
       rename_i h41;subst h41;cases h;obtain ⟨_,_,_,hw⟩:=qJc (v:=(J0 t).1) (k:=(J0 t).2) rfl h0;have ht:t=(J0 t).1.write++41 :: u:=by rw [<- hw,<- hdr,List.take_append_drop]
       unfold jQ8;rw [jQ3];have hv:(⟨(J0 t).1.num,(J0 t).1.n,(J0 t).1.s⟩:V)=(J0 t).1:=rfl
       rcases hk with ⟨rfl,rfl⟩ | ⟨rfl,rfl⟩
       ·
        simp only [hv]
        conv=>lhs;rw [ht]
        simp
       ·
        simp only [hv]
        conv=>lhs;rw [ht]
        simp
      · cases h
   split at h
   · rename_i hp;exact key .eq 61 (.inl ⟨rfl,rfl⟩) hp h
   ·
    split at h
    · rename_i hp;exact key .lt 60 (.inr ⟨rfl,rfl⟩) hp h
    · cases h
  · cases h
theorem jQ4 {k:Opk} {l:List Pr} {z u:List UInt8} {p:Pr} (h:Kx k l z=some (p,u)):p=jQ6 k l/\z=41 :: u:=by
 cases z with
 | nil=>cases h
 | cons c z=>
  rw [Kx] at h
  split at h
  · rename_i hc;cases h;exact ⟨rfl,by rw [hc]⟩
  · cases h
theorem vQp {u t:List UInt8} {k:Opk} (h:jQl u=some (k,t)):(k=.and/\u=32 :: 97 :: 110 :: 100 :: 32 :: t)∨(k=.or/\u=32 :: 111 :: 114 :: 32 :: t):=by
 unfold jQl at h
 split at h
 · rename_i hp;obtain ⟨r,rfl⟩:=Jg.1 hp;cases h;exact .inl ⟨rfl,rfl⟩
 ·
  split at h
  · rename_i hp;obtain ⟨r,rfl⟩:=Jg.1 hp;cases h;exact .inr ⟨rfl,rfl⟩
  · cases h
theorem vQS:∀ (d:Nat) (s:List UInt8) (p:Pr) (r:List UInt8),Yy d s=some (p,r)->s=Yk p++r:=by
 intro d
 induction d with
 | zero=>intro s p r h;cases h
 | succ d ih=>
  intro s p r h;rw [Yy] at h;unfold qQG at h
  split at h
  · rename_i hp;obtain ⟨t,rfl⟩:=Jg.1 hp;cases h;unfold jQ6;rw [jQ3];rfl
  split at h
  · rename_i hp;obtain ⟨t,rfl⟩:=Jg.1 hp;obtain ⟨⟨a,b⟩,h1,h2⟩:=Option.map_eq_some_iff.1 h;cases h2;obtain ⟨h3,_⟩:=Zy h1;unfold jQ8;rw [jQ3];have h3:t=a++41 :: b:=h3;rw [h3];simp
  split at h
  · rename_i hp;obtain ⟨t,rfl⟩:=Jg.1 hp;obtain ⟨⟨a,b⟩,h1,h2⟩:=Option.map_eq_some_iff.1 h;cases h2;obtain ⟨h3,_⟩:=Zy h1;unfold jQ8;rw [jQ3];have h3:t=a++41 :: b:=h3;rw [h3];simp
  split at h
  ·
   rename_i hp;obtain ⟨t,rfl⟩:=Jg.1 hp;have h:qQN (Yy d) t=some (p,r):=h;show 40 :: t=_;unfold qQN at h
   split at h
   · rename_i x hc;cases h;exact zJx hc
   ·
    split at h
    ·
     rename_i hn;obtain ⟨t',rfl⟩:=Jg.1 hn;have hd:([110,111,116,32]++t').drop 4=t':=rfl;rw [hd] at h
     split at h
     · cases h
     · rename_i q z hq;obtain ⟨rfl,rfl⟩:=jQ4 h;have:=ih _ _ _ hq;unfold jQ6;rw [jQ3];rw [this];simp [Jz]
    ·
     split at h
     · cases h
     ·
      rename_i q u hq
      split at h
      · cases h
      ·
       rename_i x hj;obtain ⟨k,t'⟩:=x;unfold qQJ at h
       split at h
       · cases h
       ·
        rename_i q2 z hq2;obtain ⟨rfl,rfl⟩:=jQ4 h;have h1:=ih _ _ _ hq;have h2:=ih _ _ _ hq2;have h3:t'=Yk q2++41 :: r:=h2;clear h2 hq2;unfold jQ6
        rcases vQp hj with ⟨rfl,rfl⟩ | ⟨rfl,rfl⟩
        · rw [jQ3,h1,h3];simp [Jz]
        · rw [jQ3,h1,h3];simp [Jz]
  · cases h
end Tryst
namespace Tryst
open Go Go.Lib
mutual
def Zb:Pr->Prop
 | .mk _ _ _ n _ l=>(-9223372036854775808<=n/\n<=9223372036854775807)/\jQc l
def jQc:List Pr->Prop
 | []=>True
 | x :: r=>Zb x/\jQc r
end
theorem zQ8:∀ {s:List UInt8} {c:UInt8},c∈s->c=46∨∃ p∈dots s,c∈p
 | [],c,h=>by cases h
 | x :: r,c,h=>by
  rw [qQZ]
  by_cases hx:x=46
  ·
   rw [if_pos hx]
   rcases List.mem_cons.1 h with rfl | h
   · exact .inl hx
   ·
    rcases zQ8 h with h | ⟨p,h1,h2⟩
    · exact .inl h
    · exact .inr ⟨p,List.mem_cons_of_mem _ h1,h2⟩
  ·
   rw [if_neg hx]
   rcases List.mem_cons.1 h with rfl | h
   ·
    right
    cases dots r with
    | nil=>exact ⟨_,List.mem_cons_self,by simp⟩
    | cons p ps=>exact ⟨_,List.mem_cons_self,by simp⟩
   ·
    rcases zQ8 h with h | ⟨p,h1,h2⟩
    · exact .inl h
    ·
     right
     cases hd:dots r with
     | nil=>rw [hd] at h1;cases h1
     | cons q qs=>
      rw [hd] at h1
      rcases List.mem_cons.1 h1 with rfl | h1
      · exact ⟨_,List.mem_cons_self,List.mem_cons_of_mem _ h2⟩
      · exact ⟨p,List.mem_cons_of_mem _ h1,h2⟩
theorem vQc {p:List UInt8} {c:UInt8} (h:Z1 p=true) (hc:c∈p):qQE c=true:=by
 unfold Z1 at h;rw [Bool.and_eq_true,List.all_eq_true] at h;exact h.2 c hc
theorem qJ2 {s:List UInt8} {c:UInt8} (h:Q5 s=true) (hc:c∈s):c=46∨qQE c=true:=by
 unfold Q5 Yx at h;simp only [Bool.and_eq_true,List.all_eq_true] at h
 rcases zQ8 hc with h1 | ⟨p,h1,h2⟩
 · exact .inl h1
 · exact .inr (vQc (h.2.2 p h1) h2)
theorem kJm {s:List UInt8} {c:UInt8} (h:Yz s=true) (hc:c∈s):c=46∨c=42∨qQE c=true:=by
 unfold Yz at h;simp only [Bool.and_eq_true,List.all_eq_true] at h
 rcases zQ8 hc with h1 | ⟨p,h1,h2⟩
 · exact .inl h1
 ·
  right
  have h3:=h.2 p h1;unfold Xb at h3;simp only [Bool.or_eq_true,decide_eq_true_eq] at h3
  rcases h3 with rfl | rfl | h3
  · left;simpa using h2
  · left;simpa using h2
  · exact .inr (vQc h3 h2)
theorem qQV {s:List UInt8} {c:UInt8} (h:Q5 s=true) (h1:c≠46) (h2:qQE c=false):c ∉ s:=fun hc=>by
 rcases qJ2 h hc with e | e
 · exact h1 e
 · rw [h2] at e;cases e
theorem xJM {s:List UInt8} {c:UInt8} (h:Yz s=true) (h1:c≠46) (h3:c≠42) (h2:qQE c=false):c ∉ s:=fun hc=>by
 rcases kJm h hc with e | e | e
 · exact h1 e
 · exact h3 e
 · rw [h2] at e;cases e
theorem zJA {z:Int} {c:UInt8} (h:c∈itoa z):c=45∨Jx c=true:=by
 unfold itoa at h
 split at h
 ·
  rcases List.mem_cons.1 h with h | h
  · exact .inl h
  · exact .inr (Zx _ c h)
 · exact .inr (Zx _ c h)
theorem zQY (v:V) (hm:v.May) (hf:v.Fits) (r:List UInt8):J0 (v.write++41 :: r)=(v,v.write.length):=by
 obtain ⟨num,n,s⟩:=v;unfold V.May at hm;cases num with
 | true=>
  simp only [if_true] at hm;subst hm;simp only [V.write,if_true];obtain ⟨c,l,e,hc⟩:=vQs n;have hlen:1<=(itoa n).length:=by rw [e];simp
  have hat:jQa (itoa n++41 :: r) (itoa n).length n:=⟨hlen,by simp,hf,by rw [List.take_left'];rfl⟩
  rcases qQA (itoa n++41 :: r) with ⟨_,h⟩ | ⟨h1,h2⟩
  · exact absurd hat (h _ _)
  ·
   have h3:=h2 _ _ hat;obtain ⟨g1,g2,g3,g4⟩:=h1
   have h5:(Q2 (itoa n++41 :: r)).2=(itoa n).length:=by
    by_cases hlt:(itoa n).length < (Q2 (itoa n++41 :: r)).2
    ·
     exfalso
     have hm:(41:UInt8)∈itoa (Q2 (itoa n++41 :: r)).1:=by
      rw [<- g4,List.mem_take_iff_getElem];exact ⟨(itoa n).length,by simp;omega,by simp⟩
     rcases zJA hm with h | h
     · exact absurd h (by decide)
     · exact absurd h (by decide)
    · omega
   rw [h5,List.take_left' rfl] at g4;have h7:=jJh g4
   have h8:J0 (itoa n++41 :: r)=if (Q2 (itoa n++41 :: r)).2=0 then (V.zero,0) else (⟨true,(Q2 (itoa n++41 :: r)).1,[]⟩,(Q2 (itoa n++41 :: r)).2):=by
    conv=>lhs;rw [e]
    rw [List.cons_append];unfold J0;simp only;rw [if_neg hc,e,List.cons_append]
   rw [h8,h5,<- h7,if_neg (by omega)]
 | false=>
  simp only [Bool.false_eq_true,if_false] at hm;obtain ⟨rfl,hs⟩:=hm;simp only [V.write,Bool.false_eq_true,if_false];unfold J0 wr;have e:34 :: (esc s++[34])++41 :: r=34 :: (esc s++34 :: (41 :: r)):=by simp
  rw [e];simp only [if_true];rw [zJj s 0 (41 :: r) (by omega)];simp
theorem zQ2 {op s:ByteArray} {num:Bool} {n:Int} {vs:ByteArray} {l:List Pr} {d:Nat} (h:Kg (.mk op s num n vs l) (d+1)=true):∃ k:Opk,op=k.text/\Jj k s num n vs l.length=true/\jQL l d=true:=by
 rw [Kg] at h;simp only [Bool.and_eq_true,Nat.add_sub_cancel] at h;obtain ⟨-,h1,h2⟩:=h
 rcases jJM op with ⟨k,rfl⟩ | ⟨h,_⟩
 · rw [Yf] at h1;exact ⟨k,rfl,h1,h2⟩
 · unfold Z6 at h1;rw [h] at h1;cases h1
theorem xQ3 {s:ByteArray} (h:s.size=0):s=⟨#[]⟩:=by
 obtain ⟨a⟩:=s;have:a=#[]:=Array.eq_empty_of_size_eq_zero h;rw [this]
theorem jJi {num:Bool} {n:Int} {vs:ByteArray} (h:noV num n vs=true):num=false/\n=0/\vs=⟨#[]⟩:=by
 unfold noV at h;simp only [Bool.and_eq_true,Bool.not_eq_true',decide_eq_true_eq] at h;exact ⟨h.1,h.2.1,xQ3 h.2.2⟩
theorem zQz {y:Pr} {d:Nat} (h:Kg y d=true):Yk y=[97,108,108]∨∃ pre t,Yk y=pre++40 :: t/\(pre=[]∨pre=[116,111,112,105,99]∨pre=[104,97,115]):=by
 obtain ⟨op,s,num,n,vs,l⟩:=y;cases d with
 | zero=>rw [Kg] at h;simp at h
 | succ d=>
  obtain ⟨k,rfl,h1,h2⟩:=zQ2 h;rw [jQ3];cases k with
  | all=>exact .inl rfl
  | topic=>exact .inr ⟨[116,111,112,105,99],_,rfl,.inr (.inl rfl)⟩
  | has=>exact .inr ⟨[104,97,115],_,rfl,.inr (.inr rfl)⟩
  | eq=>exact .inr ⟨[],_,rfl,.inl rfl⟩
  | lt=>exact .inr ⟨[],_,rfl,.inl rfl⟩
  | not=>exact .inr ⟨[],_,rfl,.inl rfl⟩
  | and=>exact .inr ⟨[],_,rfl,.inl rfl⟩
  | or=>exact .inr ⟨[],_,rfl,.inl rfl⟩
theorem zQN {y:Pr} {d:Nat} (h:Kg y d=true):∃ c t,Yk y=c :: t/\(c=97∨c=116∨c=104∨c=40):=by
 rcases zQz h with h | ⟨pre,t,h,rfl | rfl | rfl⟩
 · exact ⟨_,_,h,.inl rfl⟩
 · exact ⟨_,_,h,by decide⟩
 · exact ⟨_,_,h,by decide⟩
 · exact ⟨_,_,h,by decide⟩
theorem zQq {a b c:UInt8} {t:List UInt8} (h:c≠a):hasPrefix (c :: t) [a,b]=false:=by
 unfold hasPrefix;rw [List.isPrefixOf_cons_cons];have:(a==c)=false:=by simpa using fun e=>h e.symm
 rw [this];rfl
theorem jJ6 {y:Pr} {d:Nat} (h:Kg y d=true) (c:UInt8) (z:List UInt8) (h1:c≠61) (h2:c≠60):cmpP (Yk y++32 :: c :: z)=none:=by
 rcases zQz h with h | ⟨pre,t,h,hp⟩
 · rw [h];unfold cmpP;have e:cutC 32 ([97,108,108]++32 :: c :: z)=some ([97,108,108],c :: z):=jQs _ (by decide);rw [e];simp only [zQq h1,zQq h2];simp
 ·
  unfold cmpP
  split
  · rfl
  · rename_i f r hc;rw [h,List.append_assoc,List.cons_append] at hc;have hm:=jJV hc (by rcases hp with rfl | rfl | rfl<;>decide) (by decide);rw [if_neg];intro hf;exact qQV hf (by decide) (by decide) hm
theorem xJ0:∀ (d:Nat) (p:Pr),Kg p d=true->Zb p->∀ r,Yy d (Yk p++r)=some (p,r):=by
 intro d
 induction d with
 | zero=>
  intro p h;obtain ⟨op,s,num,n,vs,l⟩:=p;rw [Kg] at h;simp at h
 | succ d ih=>
  intro p h hft r;obtain ⟨op,s,num,n,vs,l⟩:=p;obtain ⟨k,rfl,h1,h2⟩:=zQ2 h;rw [Zb] at hft;rw [jQ3,Yy]
  have hnode:∀ {j:Nat},(decide (s.size=0)&&(noV num n vs&&decide (l.length=j)))=true->l.length=j/\(Pr.mk k.text s num n vs l)=jQ6 k l:=by
   intro j h;simp only [Bool.and_eq_true,decide_eq_true_eq] at h;obtain ⟨q1,q2,q3⟩:=jJi h.2.1;exact ⟨h.2.2,by rw [xQ3 h.1,q1,q2,q3];rfl⟩
  have hleaf:l.length=0->(Pr.mk k.text s num n vs l)=jQ8 k s.data.toList ⟨num,n,vs.data.toList⟩:=fun h=>by
   rw [List.length_eq_zero_iff.1 h];unfold jQ8;rw [show (⟨(s.data.toList).toArray⟩:ByteArray)=s from rfl,show (⟨(vs.data.toList).toArray⟩:ByteArray)=vs from rfl]
  cases k with
  | all=>
   obtain ⟨q1,q2⟩:=hnode h1;rw [q2,List.length_eq_zero_iff.1 q1];unfold qQG;rw [if_pos (kQn _ _)];rfl
  | topic=>
   simp only [Jj,Bool.and_eq_true,decide_eq_true_eq] at h1;rw [hleaf h1.2.2];obtain ⟨rfl,rfl,rfl⟩:=jJi h1.2.1;unfold qQG;rw [if_neg (by simp [hasPrefix,List.isPrefixOf]),List.append_assoc,if_pos (kQn _ _)];show Option.map _ (cutC 41 ((s.data.toList++[41])++r))=_;rw [List.append_assoc,List.singleton_append,jQs _ (xJM h1.1 (by decide) (by decide) (by decide))];rfl
  | has=>
   simp only [Jj,Bool.and_eq_true,decide_eq_true_eq] at h1;rw [hleaf h1.2.2];obtain ⟨rfl,rfl,rfl⟩:=jJi h1.2.1;unfold qQG;rw [if_neg (by simp [hasPrefix,List.isPrefixOf]),if_neg (by simp [hasPrefix,List.isPrefixOf]),List.append_assoc,if_pos (kQn _ _)];show Option.map _ (cutC 41 ((s.data.toList++[41])++r))=_;rw [List.append_assoc,List.singleton_append,jQs _ (qQV h1.1 (by decide) (by decide))];rfl
  | eq=>
   simp only [Jj,Bool.and_eq_true,decide_eq_true_eq,Go.Proofs.YtcbicdencgjfiaaGreatDoor.V.mayB] at h1;rw [hleaf h1.2.2];unfold qQG;rw [if_neg (by simp [hasPrefix,List.isPrefixOf]),if_neg (by simp [hasPrefix,List.isPrefixOf]),if_neg (by simp [hasPrefix,List.isPrefixOf]),if_pos (by simp [hasPrefix,List.isPrefixOf])];unfold qQN
   have e:cmpP (List.drop 1 (40 :: (s.data.toList++32 :: 61 :: 32 :: (V.write ⟨num,n,vs.data.toList⟩++[41]))++r))=some (jQ8 .eq s.data.toList ⟨num,n,vs.data.toList⟩,r):=by
    rw [List.cons_append,List.drop_succ_cons,List.drop_zero,List.append_assoc,List.cons_append,List.cons_append,List.cons_append,List.append_assoc,List.singleton_append];unfold cmpP;rw [jQs _ (qQV h1.1 (by decide) (by decide))];simp only [h1.1,if_true];rw [if_pos (by simp [hasPrefix,List.isPrefixOf])];unfold cmpV;rw [List.drop_succ_cons,List.drop_succ_cons,List.drop_zero,zQY _ h1.2.1 hft.1]
    have hne:(V.write ⟨num,n,vs.data.toList⟩).length≠0:=by
     unfold V.write
     split
     · have:=qJj n;intro e;exact this (List.length_eq_zero_iff.1 e)
     · simp [wr]
    simp only [hne,if_false,List.drop_left,if_true]
   rw [e]
  | lt=>
   simp only [Jj,Bool.and_eq_true,decide_eq_true_eq,Go.Proofs.YtcbicdencgjfiaaGreatDoor.V.mayB] at h1;rw [hleaf h1.2.2];unfold qQG;rw [if_neg (by simp [hasPrefix,List.isPrefixOf]),if_neg (by simp [hasPrefix,List.isPrefixOf]),if_neg (by simp [hasPrefix,List.isPrefixOf]),if_pos (by simp [hasPrefix,List.isPrefixOf])];unfold qQN
   have e:cmpP (List.drop 1 (40 :: (s.data.toList++32 :: 60 :: 32 :: (V.write ⟨num,n,vs.data.toList⟩++[41]))++r))=some (jQ8 .lt s.data.toList ⟨num,n,vs.data.toList⟩,r):=by
    rw [List.cons_append,List.drop_succ_cons,List.drop_zero,List.append_assoc,List.cons_append,List.cons_append,List.cons_append,List.append_assoc,List.singleton_append];unfold cmpP;rw [jQs _ (qQV h1.1 (by decide) (by decide))];simp only [h1.1,if_true];rw [if_neg (by simp [hasPrefix,List.isPrefixOf]),if_pos (by simp [hasPrefix,List.isPrefixOf])];unfold cmpV;rw [List.drop_succ_cons,List.drop_succ_cons,List.drop_zero,zQY _ h1.2.1 hft.1]
    have hne:(V.write ⟨num,n,vs.data.toList⟩).length≠0:=by
     unfold V.write
     split
     · have:=qJj n;intro e;exact this (List.length_eq_zero_iff.1 e)
     · simp [wr]
    simp only [hne,if_false,List.drop_left,if_true]
   rw [e]
  | not=>
   obtain ⟨q1,q2⟩:=hnode h1;obtain ⟨y,rfl⟩:=List.length_eq_one_iff.1 q1;rw [q2];have hy:Kg y d=true:=by simpa [jQL] using h2
   have fy:Zb y:=by
    have:=hft.2;rw [jQc] at this;exact this.1
   unfold qQG;rw [if_neg (by simp [hasPrefix,List.isPrefixOf]),if_neg (by simp [hasPrefix,List.isPrefixOf]),if_neg (by simp [hasPrefix,List.isPrefixOf]),if_pos (by simp [hasPrefix,List.isPrefixOf])];have e0:List.drop 1 (40 :: 110 :: 111 :: 116 :: 32 :: ((Jz [y])[0]?.getD []++[41])++r)=[110,111,116]++32 :: (Yk y++41 :: r):=by simp [Jz]
   rw [e0];obtain ⟨c,t,hc,hcc⟩:=zQN hy
   have e:cmpP ([110,111,116]++32 :: (Yk y++41 :: r))=none:=by
    unfold cmpP;rw [jQs _ (by decide),hc];simp only [List.cons_append];rw [zQq (by rcases hcc with rfl | rfl | rfl | rfl<;>decide),zQq (by rcases hcc with rfl | rfl | rfl | rfl<;>decide)];simp
   unfold qQN;rw [e];simp only;rw [if_pos (by simp [hasPrefix,List.isPrefixOf])];have e1:List.drop 4 ([110,111,116]++32 :: (Yk y++41 :: r))=Yk y++41 :: r:=rfl;rw [e1,ih y hy fy];rfl
  | and=>
   obtain ⟨q1,q2⟩:=hnode h1
   obtain ⟨y,z,rfl⟩:∃ y z,l=[y,z]:=by
    match l,q1 with
    | [y,z],_=>exact ⟨y,z,rfl⟩
   rw [q2];simp only [jQL,Bool.and_eq_true,and_true] at h2;have hft:=hft.2;simp only [jQc,and_true] at hft;unfold qQG;obtain ⟨c,t,hc,hcc⟩:=zQN h2.1;rw [if_neg (by simp [hasPrefix,List.isPrefixOf]),if_neg (by simp [hasPrefix,List.isPrefixOf]),if_neg (by simp [hasPrefix,List.isPrefixOf]),if_pos (by simp [hasPrefix,List.isPrefixOf])];have e0:List.drop 1 (40 :: ((Jz [y,z])[0]?.getD []++32 :: 97 :: 110 :: 100 :: 32 :: ((Jz [y,z])[1]?.getD []++[41]))++r)=Yk y++32 :: 97 :: 110 :: 100 :: 32 :: (Yk z++41 :: r):=by simp [Jz]
   rw [e0];unfold qQN;rw [jJ6 h2.1 97 _ (by decide) (by decide)];simp only;rw [if_neg (by rw [hc];rcases hcc with rfl | rfl | rfl | rfl<;>simp [hasPrefix,List.isPrefixOf]),ih y h2.1 hft.1]
   have e2:jQl (32 :: 97 :: 110 :: 100 :: 32 :: (Yk z++41 :: r))=some (.and,Yk z++41 :: r):=by
    unfold jQl;rw [if_pos (by simp [hasPrefix,List.isPrefixOf])];rfl
   simp only [e2];unfold qQJ;simp only;rw [ih z h2.2 hft.2];rfl
  | or=>
   obtain ⟨q1,q2⟩:=hnode h1
   obtain ⟨y,z,rfl⟩:∃ y z,l=[y,z]:=by
    match l,q1 with
    | [y,z],_=>exact ⟨y,z,rfl⟩
   rw [q2];simp only [jQL,Bool.and_eq_true,and_true] at h2;have hft:=hft.2;simp only [jQc,and_true] at hft;unfold qQG;obtain ⟨c,t,hc,hcc⟩:=zQN h2.1;rw [if_neg (by simp [hasPrefix,List.isPrefixOf]),if_neg (by simp [hasPrefix,List.isPrefixOf]),if_neg (by simp [hasPrefix,List.isPrefixOf]),if_pos (by simp [hasPrefix,List.isPrefixOf])];have e0:List.drop 1 (40 :: ((Jz [y,z])[0]?.getD []++32 :: 111 :: 114 :: 32 :: ((Jz [y,z])[1]?.getD []++[41]))++r)=Yk y++32 :: 111 :: 114 :: 32 :: (Yk z++41 :: r):=by simp [Jz]
   rw [e0];unfold qQN;rw [jJ6 h2.1 111 _ (by decide) (by decide)];simp only;rw [if_neg (by rw [hc];rcases hcc with rfl | rfl | rfl | rfl<;>simp [hasPrefix,List.isPrefixOf]),ih y h2.1 hft.1]
   have e2:jQl (32 :: 111 :: 114 :: 32 :: (Yk z++41 :: r))=some (.or,Yk z++41 :: r):=by
    unfold jQl;rw [if_neg (by simp [hasPrefix,List.isPrefixOf]),if_pos (by simp [hasPrefix,List.isPrefixOf])];rfl
   simp only [e2];unfold qQJ;simp only;rw [ih z h2.2 hft.2];rfl
mutual
theorem zJu:∀ x y:PB,qQY x y=true↔x.pr=y.pr
 | .mk op s num n vs a c l,.mk op' s' num' n' vs' a' c' l'=>by
  rw [qQY,Bool.and_eq_true,vQF l l',PB.pr,PB.pr];unfold zQT;simp only [Bool.and_eq_true,decide_eq_true_eq,Pr.mk.injEq];simp only [PB.op,PB.s,PB.num,PB.n,PB.vs,PB.l]
  constructor
  · rintro ⟨⟨h1,h2,⟨h3,h4,h5⟩,h6⟩,h7⟩;exact ⟨h1,h2,h3,h4,h5,h7⟩
  · rintro ⟨h1,h2,h3,h4,h5,h7⟩;refine ⟨⟨h1,h2,⟨h3,h4,h5⟩,?_⟩,h7⟩;have:=congrArg List.length h7;rw [PB.prs_len,PB.prs_len] at this;exact this
theorem vQF:∀ l m:List PB,jQ7 l m=true↔PB.prs l=PB.prs m
 | [],[]=>by rw [jQ7];simp
 | x :: r,y :: t=>by
  rw [jQ7,Bool.and_eq_true,zJu x y,vQF r t,PB.prs,PB.prs,List.cons.injEq]
 | [],_ :: _=>by rw [jQ7,PB.prs,PB.prs];simp
 | _ :: _,[]=>by rw [jQ7,PB.prs,PB.prs];simp
end
