import Derived.Test.YtcbicdencgjfiaaGreatDoorSamT
set_option linter.all false
namespace Tryst
open Go Go.Lib
abbrev Rd:=Option (Pr × (List UInt8 × Nat))
def lim (m:Nat):Option (Pr × List UInt8)->Rd
 | none=>none
 | some (p,u)=>if m+Q9 p<=40 then some (p,u,m+Q9 p) else none
def qQK (m:Nat):Option (Pr × List UInt8)->Rd
 | none=>none
 | some (p,u)=>some (p,u,m)
def jQ0 (s:List UInt8):List UInt8 × List UInt8:=(cutC 32 s).getD (s,[])
def twoN (f:Nat->List UInt8->Rd) (m:Nat) (s:List UInt8):Rd:=
 match f m s with
 | none=>none
 | some (p,u,m1)=>match jQl u with
  | none=>none
  | some (k,t)=>match f m1 t with
   | none=>none
   | some (q,z,m2)=>qQK m2 (Kx k [p,q] z)
def notN (f:Nat->List UInt8->Rd) (m:Nat) (s:List UInt8):Rd:=
 match f m s with
 | none=>none
 | some (p,z,m1)=>qQK m1 (Kx .not [p] z)
def qQz (f:Nat->List UInt8->Rd) (m:Nat) (s:List UInt8):Rd:=
 if Q5 (jQ0 s).1=true then
  (if hasPrefix (jQ0 s).2 [61,32]=true then qQK m (cmpV .eq (jQ0 s).1 ((jQ0 s).2.drop 2))
  else if hasPrefix (jQ0 s).2 [60,32]=true then qQK m (cmpV .lt (jQ0 s).1 ((jQ0 s).2.drop 2))
  else if (jQ0 s).1=[110,111,116] then notN f m (jQ0 s).2
  else twoN f m s)
 else twoN f m s
def kQP (f:Nat->List UInt8->Rd) (m:Nat) (s:List UInt8):Rd:=
 if hasPrefix s [97,108,108]=true then some (jQ6 .all [],s.drop 3,m)
 else if hasPrefix s [116,111,112,105,99,40]=true then qQK m ((cutC 41 (s.drop 6)).map fun p=>(jQ8 .topic p.1 V.zero,p.2))
 else if hasPrefix s [104,97,115,40]=true then qQK m ((cutC 41 (s.drop 4)).map fun p=>(jQ8 .has p.1 V.zero,p.2))
 else if hasPrefix s [40]=true then qQz f m (s.drop 1)
 else none
def parN:Nat->Nat->List UInt8->Rd
 | 0,_,_=>none
 | r+1,m,s=>if m < 40 then kQP (parN r) (m+1) s else none
theorem kQe (k:Opk) (f:List UInt8) (v:V):Q9 (jQ8 k f v)=1:=by
 unfold jQ8;rw [Q9,J3]
theorem qQ4 (k:Opk) (l:List Pr):Q9 (jQ6 k l)=1+J3 l:=by
 unfold jQ6;rw [Q9]
theorem zQl {m:Nat} (hm:m < 40) {x:Option (Pr × List UInt8)} (h:∀ p u,x=some (p,u)->Q9 p=1):qQK (m+1) x=lim m x:=by
 cases x with
 | none=>rfl
 | some y=>
  obtain ⟨p,u⟩:=y;have h1:=h p u rfl;show some _=if _ then _ else _
  rw [h1,if_pos (by omega)]
theorem zQx {k:Opk} {f t:List UInt8} {p:Pr} {u:List UInt8} (h:cmpV k f t=some (p,u)):Q9 p=1:=by
 unfold cmpV at h
 split at h
 · cases h
 ·
  split at h
  · cases h
  ·
   split at h
   · cases h;exact kQe _ _ _
   · cases h
theorem kJL (d:Nat):Yy d []=none:=by
 cases d<;>rfl
theorem jJg (d:Nat) {c:UInt8} {s:List UInt8} (h1:c≠97) (h2:c≠116) (h3:c≠104) (h4:c≠40):Yy d (c :: s)=none:=by
 have hp:∀ (x:UInt8) (l:List UInt8),c≠x->hasPrefix (c :: s) (x :: l)=false:=fun x l hx=>by
  cases e:hasPrefix (c :: s) (x :: l) with
  | false=>rfl
  | true=>
   obtain ⟨r,hr⟩:=Jg.1 e;cases hr;exact absurd rfl hx
 cases d with
 | zero=>rfl
 | succ d=>
  rw [Yy];unfold qQG;rw [hp 97 _ h1,hp 116 _ h2,hp 104 _ h3,hp 40 _ h4];simp
theorem qJH {d:Nat} {f r:List UInt8} (hf:Q5 f=true) {p:Pr} {u:List UInt8} (h:Yy d (f++32 :: r)=some (p,u)):∃ g,f=[97,108,108]++g/\u=g++32 :: r:=by
 have hno:(40:UInt8) ∉ f:=qQV hf (by decide) (by decide);have hno2:(32:UInt8) ∉ f:=qQV hf (by decide) (by decide);have hc:cutC 32 (f++32 :: r)=some (f,r):=jQs r hno2
 have key:∀ (a b:List UInt8),f++32 :: r=a++40 :: b->(32:UInt8) ∉ a->False:=fun a b e ha=>by
  rw [e] at hc;exact hno (jJV hc ha (by decide))
 cases d with
 | zero=>cases h
 | succ d=>
  rw [Yy] at h;unfold qQG at h
  split at h
  ·
   rename_i hp;obtain ⟨t,ht⟩:=Jg.1 hp;rw [ht] at h;cases h
   have h3:([97,108,108]:List UInt8) <+: f:=by
    refine List.prefix_of_prefix_length_le (l₃:=f++32 :: r) ⟨t,ht.symm⟩ ⟨32 :: r,rfl⟩ ?_
    rcases Nat.lt_or_ge f.length 3 with hl | hl
    ·
     exfalso
     have hx:(32:UInt8)∈([97,108,108]:List UInt8):=by
      have e1:(f++32 :: r)[f.length]?=some 32:=by simp
      rw [ht,List.getElem?_append_left (by simpa using hl)] at e1;exact List.mem_of_getElem? e1
     simp at hx
    · exact hl
   obtain ⟨g,hg⟩:=h3;refine ⟨g,hg.symm,?_⟩;rw [<- hg,List.append_assoc] at ht;exact (List.append_cancel_left ht).symm
  split at h
  · rename_i hp;obtain ⟨t,ht⟩:=Jg.1 hp;exact (key [116,111,112,105,99] t (by rw [ht];rfl) (by simp)).elim
  split at h
  · rename_i hp;obtain ⟨t,ht⟩:=Jg.1 hp;exact (key [104,97,115] t (by rw [ht];rfl) (by simp)).elim
  split at h
  · rename_i hp;obtain ⟨t,ht⟩:=Jg.1 hp;exact (key [] t (by rw [ht];rfl) (by simp)).elim
  · cases h
theorem qY7 (f : Nat -> List UInt8 -> Rd) (F : List UInt8 -> Option (Pr × List UInt8)) (hf : ∀ m s, f m s = lim m (F s)) (m : Nat) (s : List UInt8) (hm : m < 40) : twoN f (m + 1) s = lim m (match F s with
      | none=>none
      | some (p,u)=>match jQl u with
        | none=>none
        | some x=>qQJ F p x):=by
  unfold twoN;rw [hf]
  rcases hF:F s with _ | ⟨p,u⟩
  · rfl
  · show (match (if _ then _ else _:Rd) with | none=>none | some (p,u,m1)=>_)=_
    by_cases h1:m+1+Q9 p<=40
    · rw [if_pos h1]
      dsimp only
      rcases hj:jQl u with _ | ⟨k,t⟩
      · rfl
      · dsimp only
        rw [hf];unfold qQJ;dsimp only
        rcases hG:F t with _ | ⟨q,z⟩
        · rfl
        · show (match (if _ then _ else _:Rd) with | none=>none | some (q,z,m2)=>_)=_
          dsimp only
          by_cases h2:m+1+Q9 p+Q9 q<=40
          · rw [if_pos h2]
            dsimp only
            rcases hc:Kx k [p,q] z with _ | ⟨y,v⟩
            · rfl
            · obtain ⟨rfl,_⟩:=jQ4 hc
              show some _=if _ then _ else _
              have hn:m+Q9 (jQ6 k [p,q])=m+1+Q9 p+Q9 q:=by
                rw [qQ4,J3,J3,J3];omega
              rw [hn,if_pos h2]
          · rw [if_neg h2]
            dsimp only
            rcases hc:Kx k [p,q] z with _ | ⟨y,v⟩
            · rfl
            · obtain ⟨rfl,_⟩:=jQ4 hc
              show none=if _ then _ else _
              have hn:m+Q9 (jQ6 k [p,q])=m+1+Q9 p+Q9 q:=by
                rw [qQ4,J3,J3,J3];omega
              rw [hn,if_neg h2]
    · rw [if_neg h1]
      dsimp only
      rcases hj:jQl u with _ | ⟨k,t⟩
      · rfl
      · unfold qQJ
        dsimp only
        rcases hG:F t with _ | ⟨q,z⟩
        · rfl
        · dsimp only
          rcases hc:Kx k [p,q] z with _ | ⟨y,v⟩
          · rfl
          · obtain ⟨rfl,_⟩:=jQ4 hc
            show none=if _ then _ else _
            rw [qQ4,J3,J3,J3,if_neg (by omega)]
theorem zJN (f : Nat -> List UInt8 -> Rd) (F : List UInt8 -> Option (Pr × List UInt8)) (hf : ∀ m s, f m s = lim m (F s)) (m : Nat) (s : List UInt8) (hm : m < 40) : notN f (m + 1) s = lim m (match F s with
      | none=>none
      | some (p,z)=>Kx .not [p] z):=by
  unfold notN;rw [hf]
  rcases hF:F s with _ | ⟨p,z⟩
  · rfl
  · show (match (if _ then _ else _:Rd) with | none=>none | some (p,z,m1)=>_)=_
    dsimp only
    have hn:m+Q9 (jQ6 .not [p])=m+1+Q9 p:=by
      rw [qQ4,J3,J3];omega
    by_cases h1:m+1+Q9 p<=40
    · rw [if_pos h1]
      dsimp only
      rcases hc:Kx .not [p] z with _ | ⟨y,v⟩
      · rfl
      · obtain ⟨rfl,_⟩:=jQ4 hc
        show some _=if _ then _ else _
        rw [hn,if_pos h1]
    · rw [if_neg h1]
      dsimp only
      rcases hc:Kx .not [p] z with _ | ⟨y,v⟩
      · rfl
      · obtain ⟨rfl,_⟩:=jQ4 hc
        show none=if _ then _ else _
        rw [hn,if_neg h1]
theorem zQi {s:List UInt8} (h:hasPrefix s [110,111,116,32]=true):∃ r,s=[110,111,116]++32 :: r/\cutC 32 s=some ([110,111,116],r):=by
 obtain ⟨r,rfl⟩:=Jg.1 h;exact ⟨r,rfl,jQs (a:=[110,111,116]) r (by simp)⟩
theorem kJX:Q5 [110,111,116]=true:=by rfl
theorem zJc (d:Nat) (f:Nat->List UInt8->Rd) (hf:∀ m s,f m s=lim m (Yy d s)) (m:Nat) (s:List UInt8) (hm:m < 40):qQz f (m+1) s=lim m (qQN (Yy d) s):=by
 have h2:=qY7 f (Yy d) hf m s hm;unfold qQz qQN
 rcases hc:cutC 32 s with _ | ⟨w,r⟩
 ·
  have hw:jQ0 s=(s,[]):=by unfold jQ0;rw [hc];rfl
  have hp:hasPrefix s [110,111,116,32]≠true:=fun e=>by
   obtain ⟨_,_,h⟩:=zQi e;rw [hc] at h;cases h
  have hm0:cmpP s=none:=by unfold cmpP;rw [hc]
  rw [hw,hm0];dsimp only;rw [if_neg hp]
  by_cases hfs:Q5 s=true
  ·
   rw [if_pos hfs,if_neg (show ¬ hasPrefix [] [61,32]=true by decide),if_neg (show ¬ hasPrefix [] [60,32]=true by decide)]
   by_cases hs:s=[110,111,116]
   · rw [if_pos hs,hs,jJg d (by decide) (by decide) (by decide) (by decide),zJN f (Yy d) hf m [] hm,kJL]
   · rw [if_neg hs];exact h2
  · rw [if_neg hfs];exact h2
 ·
  have hw:jQ0 s=(w,r):=by unfold jQ0;rw [hc];rfl
  obtain ⟨hs,hno⟩:=Zy hc;rw [hw];dsimp only
  by_cases hfs:Q5 w=true
  ·
   rw [if_pos hfs];have hq:∀ (c:UInt8) (t:List UInt8),r=c :: t->c≠97->c≠111->c≠116->c≠104->c≠40->(if hasPrefix s [110,111,116,32]=true then (match Yy d (s.drop 4) with
   | none=>none
   | some (p,z)=>Kx .not [p] z)
  else match Yy d s with
   | none=>none
   | some (p,u)=>match jQl u with
    | none=>none
    | some x=>qQJ (Yy d) p x)=none:=fun c t hr ha ho ht hh hb=>by
    by_cases hp:hasPrefix s [110,111,116,32]=true
    · rw [if_pos hp];obtain ⟨r',e1,e2⟩:=zQi hp;rw [hc] at e2;cases e2;rw [e1];show (match Yy d r with | none=>none | some (p,z)=>_)=none;rw [hr,jJg d ha ht hh hb]
    ·
     rw [if_neg hp]
     rcases hF:Yy d s with _ | ⟨p,u⟩
     · rfl
     ·
      rw [hs] at hF;obtain ⟨g,hg,hu⟩:=qJH hfs hF;dsimp only
      have hj:jQl u=none:=by
       rcases hj:jQl u with _ | ⟨k,t'⟩
       · rfl
       ·
        exfalso
        have h3:∃ x,(x=97∨x=111)/\∃ v,u=32 :: x :: v:=by
         rcases vQp hj with ⟨_,e⟩ | ⟨_,e⟩
         · exact ⟨97,.inl rfl,_,e⟩
         · exact ⟨111,.inr rfl,_,e⟩
        obtain ⟨x,hx,v,hv⟩:=h3;rw [hu] at hv;cases g with
        | nil=>
         rw [hr] at hv;cases hv
         rcases hx with rfl | rfl
         · exact ha rfl
         · exact ho rfl
        | cons y g=>
         rw [List.cons_append,List.cons.injEq] at hv;exact hno (by rw [hg,hv.1];simp)
      rw [hj]
   unfold cmpP;rw [hc];dsimp only;rw [if_pos hfs]
   by_cases h61:hasPrefix r [61,32]=true
   ·
    rw [if_pos h61,if_pos h61];obtain ⟨t,ht⟩:=Jg.1 h61;rw [zQl hm (fun p u e=>zQx e)]
    rcases hcv:cmpV .eq w (r.drop 2) with _ | y
    · dsimp only;exact congrArg (lim m) (hq 61 (32 :: t) ht (by decide) (by decide) (by decide) (by decide) (by decide)).symm
    · rfl
   ·
    rw [if_neg h61,if_neg h61]
    by_cases h60:hasPrefix r [60,32]=true
    ·
     rw [if_pos h60,if_pos h60];obtain ⟨t,ht⟩:=Jg.1 h60;rw [zQl hm (fun p u e=>zQx e)]
     rcases hcv:cmpV .lt w (r.drop 2) with _ | y
     · dsimp only;exact congrArg (lim m) (hq 60 (32 :: t) ht (by decide) (by decide) (by decide) (by decide) (by decide)).symm
     · rfl
    ·
     rw [if_neg h60,if_neg h60];dsimp only
     by_cases hn:w=[110,111,116]
     · rw [if_pos hn];subst hn;have hp:hasPrefix s [110,111,116,32]=true:=Jg.2 ⟨r,hs⟩;rw [if_pos hp,show s.drop 4=r by rw [hs];rfl];exact zJN f (Yy d) hf m r hm
     ·
      rw [if_neg hn]
      have hp:¬ hasPrefix s [110,111,116,32]=true:=fun e=>by
       obtain ⟨_,_,h⟩:=zQi e;rw [hc] at h;cases h;exact hn rfl
      rw [if_neg hp];exact h2
  ·
   rw [if_neg hfs]
   have hp:¬ hasPrefix s [110,111,116,32]=true:=fun e=>by
    obtain ⟨_,_,h⟩:=zQi e;rw [hc] at h;cases h;exact hfs kJX
   have hm0:cmpP s=none:=by unfold cmpP;rw [hc];dsimp only;rw [if_neg hfs]
   rw [hm0];dsimp only;rw [if_neg hp];exact h2
theorem vJq:∀ (d m:Nat) (s:List UInt8),parN d m s=lim m (Yy d s):=by
 intro d
 induction d with
 | zero=>intro m s;rfl
 | succ d ih=>
  intro m s;rw [parN,Yy]
  by_cases hm:m < 40
  ·
   rw [if_pos hm];unfold kQP qQG
   by_cases h1:hasPrefix s [97,108,108]=true
   ·
    rw [if_pos h1,if_pos h1];show _=if _ then _ else _
    rw [qQ4,J3,if_pos (by omega)]
   ·
    rw [if_neg h1,if_neg h1]
    by_cases h2:hasPrefix s [116,111,112,105,99,40]=true
    · rw [if_pos h2,if_pos h2];refine zQl hm (fun p u e=>?_);obtain ⟨a,_,ha⟩:=Option.map_eq_some_iff.1 e;cases ha;exact kQe _ _ _
    ·
     rw [if_neg h2,if_neg h2]
     by_cases h3:hasPrefix s [104,97,115,40]=true
     · rw [if_pos h3,if_pos h3];refine zQl hm (fun p u e=>?_);obtain ⟨a,_,ha⟩:=Option.map_eq_some_iff.1 e;cases ha;exact kQe _ _ _
     ·
      rw [if_neg h3,if_neg h3]
      by_cases h4:hasPrefix s [40]=true
      · rw [if_pos h4,if_pos h4];exact zJc d (parN d) ih m _ hm
      · rw [if_neg h4,if_neg h4];rfl
  ·
   rw [if_neg hm]
   rcases qQG (Yy d) s with _ | ⟨p,u⟩
   · rfl
   ·
    have:=qJF p;show _=if _ then _ else _
    rw [if_neg (by omega)]
