/- plain: codecs (octets read as laid, laid as read) -/
import Derived.Test.YtcbicdencgjfiaaGreatDoorFacts
/- Plain: octets that are read as they were laid, and laid as they were read. -/
set_option linter.unusedVariables false
set_option linter.unusedSimpArgs false
namespace Tryst
structure Codec {α:Type} (f:List UInt8 × Bool→α × (List UInt8 × Bool)) (lay:α→List UInt8) (fit:α→Prop):Prop where
 put:∀ x,fit x→∀ t,f (lay x++t,false)=(x,(t,false))
 got:∀ l y r,f (l,false)=(y,(r,false))→l=lay y++r∧fit y
 bad:∀ l,(f (l,true)).2=(l,true)
theorem st_eq {α:Type} (x:α × (List UInt8 × Bool)) {b:Bool} (h:x.2.2=b):x=(x.1,(x.2.1,b)):=by subst h;rfl
theorem st_eq2 (x:List UInt8 × Bool) {b:Bool} (h:x.2=b):x=(x.1,b):=by subst h;rfl
section
variable {α β:Type} {f:List UInt8 × Bool→α × (List UInt8 × Bool)} {g:List UInt8 × Bool→β × (List UInt8 × Bool)} {lf:α→List UInt8} {lg:β→List UInt8} {pf:α→Prop} {pg:β→Prop}
theorem Codec.short (h:Codec f lf pf) {x:α} (hx:pf x) {j:Nat} (hj:j < (lf x).length):(f ((lf x).take j,false)).2.2=true:=by
 cases e:(f ((lf x).take j,false)).2.2 with
 | true=>rfl
 | false=>
  exfalso
  obtain ⟨h1,h2⟩:=h.got _ (f ((lf x).take j,false)).1 (f ((lf x).take j,false)).2.1 (st_eq _ e)
  have h3:=h.put x hx []
  rw [List.append_nil] at h3
  have h4:lf x=lf (f ((lf x).take j,false)).1++((f ((lf x).take j,false)).2.1++(lf x).drop j):=by
   rw [← List.append_assoc,← h1,List.take_append_drop]
  rw [h4] at h3
  generalize (f ((lf x).take j,false)).1=y at h1 h2 h3
  generalize (f ((lf x).take j,false)).2.1=r at h1 h3
  rw [h.put y h2] at h3
  have h5:=congrArg (fun z=>z.2.1.length) h3
  simp only [List.length_append,List.length_drop,List.length_nil] at h5
  omega
def seqR (f:List UInt8 × Bool→α × (List UInt8 × Bool)) (g:List UInt8 × Bool→β × (List UInt8 × Bool)) (s:List UInt8 × Bool):(α × β) × (List UInt8 × Bool):=(((f s).1,(g (f s).2).1),(g (f s).2).2)
theorem Codec.seq (h:Codec f lf pf) (k:Codec g lg pg):Codec (seqR f g) (fun p=>lf p.1++lg p.2) (fun p=>pf p.1∧pg p.2) where
 put:=fun x hx t=>by
  unfold seqR
  rw [List.append_assoc,h.put x.1 hx.1,k.put x.2 hx.2]
 got:=fun l y r e=>by
  unfold seqR at e
  have e1:=congrArg (·.1.1) e
  have e2:=congrArg (·.1.2) e
  have e3:=congrArg (·.2) e
  simp only at e1 e2 e3
  have hb:(f (l,false)).2.2=false:=by
   cases hb:(f (l,false)).2.2 with
   | false=>rfl
   | true=>
    rw [st_eq2 _ hb,k.bad] at e3
    cases e3
  obtain ⟨h6,h7⟩:=h.got l _ (f (l,false)).2.1 (st_eq _ hb)
  have h8:g ((f (l,false)).2.1,false)=(y.2,(r,false)):=by
   rw [← st_eq2 _ hb]
   exact Prod.ext e2 e3
  obtain ⟨h9,h10⟩:=k.got _ _ _ h8
  rw [e1] at h6 h7
  rw [h9] at h6
  exact ⟨by rw [List.append_assoc];exact h6,h7,h10⟩
 bad:=fun l=>by
  unfold seqR
  rw [h.bad l,k.bad l]
theorem Codec.iso (h:Codec f lf pf) (to:α→β) (of:β→α) (h1:∀ x,pf x→of (to x)=x) (h2:∀ y,to (of y)=y):Codec (fun s=>(to (f s).1,(f s).2)) (fun y=>lf (of y)) (fun y=>pf (of y)) where
 put:=fun y hy t=>by
  rw [h.put _ hy,h2]
 got:=fun l y r e=>by
  have e1:=congrArg (·.1) e
  have e2:=congrArg (·.2) e
  simp only at e1 e2
  obtain ⟨h3,h4⟩:=h.got l (f (l,false)).1 r (Prod.ext rfl e2)
  rw [← e1,h1 _ h4]
  exact ⟨h3,h4⟩
 bad:=fun l=>h.bad l
def manyR (f:List UInt8 × Bool→α × (List UInt8 × Bool)):Nat→List UInt8 × Bool→List α × (List UInt8 × Bool)
 | 0,s=>([],s)
 | n+1,s=>if s.2=true then ([],s) else ((f s).1 :: (manyR f n (f s).2).1,(manyR f n (f s).2).2)
theorem manyR_bad (f:List UInt8 × Bool→α × (List UInt8 × Bool)) (n:Nat) (l:List UInt8):manyR f n (l,true)=([],(l,true)):=by
 cases n with
 | zero=>rfl
 | succ n=>unfold manyR;rw [if_pos rfl]
theorem manyR_put (h:Codec f lf pf):∀ (xs:List α),(∀ x∈xs,pf x)→∀ t,manyR f xs.length (xs.flatMap lf++t,false)=(xs,(t,false))
 | [],_,t=>rfl
 | x :: xs,hx,t=>by
  show (if false=true then _ else _)=_
  rw [if_neg (by simp),List.flatMap_cons,List.append_assoc,h.put x (hx x List.mem_cons_self),manyR_put h xs (fun y hy=>hx y (List.mem_cons_of_mem _ hy))]
theorem manyR_got (h:Codec f lf pf):∀ (n:Nat) (l:List UInt8) (ys:List α) (r:List UInt8),manyR f n (l,false)=(ys,(r,false))→ys.length=n∧l=ys.flatMap lf++r∧∀ y∈ys,pf y
 | 0,l,ys,r,e=>by
  cases e
  exact ⟨rfl,rfl,fun y hy=>by cases hy⟩
 | n+1,l,ys,r,e=>by
  unfold manyR at e
  rw [if_neg (by simp)] at e
  have e1:=congrArg (·.1) e
  have e2:=congrArg (·.2) e
  simp only at e1 e2
  have hb:(f (l,false)).2.2=false:=by
   cases hb:(f (l,false)).2.2 with
   | false=>rfl
   | true=>
    rw [st_eq2 _ hb,manyR_bad] at e2
    cases e2
  have h2:(f (l,false)).2=((f (l,false)).2.1,false):=st_eq2 _ hb
  obtain ⟨h3,h4⟩:=h.got l (f (l,false)).1 (f (l,false)).2.1 (Prod.ext rfl h2)
  rw [h2] at e1 e2
  obtain ⟨h5,h6,h7⟩:=manyR_got h n (f (l,false)).2.1 _ r (Prod.ext rfl e2)
  subst e1
  refine ⟨by rw [List.length_cons,h5],?_,fun y hy=>?_⟩
  ·
   rw [List.flatMap_cons,List.append_assoc,← h6]
   exact h3
  ·
   rcases List.mem_cons.1 hy with rfl | hy
   ·
    exact h4
   ·
    exact h7 y hy
end
def idR (s:List UInt8 × Bool):Nat × (List UInt8 × Bool):=if s.2=true then (0,s) else if (unp s.1).2.2=0 then ((unp s.1).1,(s.1.drop (unp s.1).2.1,false)) else (0,(s.1,true))
theorem idC:Codec idR pack (fun n=>n < 2 ^ 64) where
 put:=fun n hn t=>by
  unfold idR
  rw [if_neg (by simp),unp_pack n hn t,if_pos rfl,List.drop_left]
 got:=fun l y r e=>by
  unfold idR at e
  rw [if_neg (by simp)] at e
  split at e
  ·
   rename_i h
   simp only [Prod.mk.injEq,and_true] at e
   obtain ⟨e1,e2⟩:=e
   obtain ⟨h1,h2,h3,h4,h5⟩:=unp_ok (l:=l) (n:=(unp l).1) (k:=(unp l).2.1) (by rw [← h])
   rw [← e1,← e2,← h5,List.take_append_drop]
   exact ⟨rfl,h1⟩
  ·
   cases e
 bad:=fun l=>by unfold idR;rw [if_pos rfl]
def numR (s:List UInt8 × Bool):Int × (List UInt8 × Bool):=(unfold_ (idR s).1,(idR s).2)
theorem numC:Codec numR (fun n=>pack (fold n)) (fun n=>fold n < 2 ^ 64):=idC.iso unfold_ fold (fun n _=>fold_unfold n) unfold_fold
def textR (s:List UInt8 × Bool):List UInt8 × (List UInt8 × Bool):=if (idR s).2.2=true then ([],(idR s).2) else if (idR s).1≤(idR s).2.1.length then ((idR s).2.1.take (idR s).1,((idR s).2.1.drop (idR s).1,false)) else ([],((idR s).2.1,true))
theorem textC:Codec textR textL (fun t=>t.length < 2 ^ 64) where
 put:=fun x hx t=>by
  unfold textR textL
  rw [List.append_assoc,idC.put _ hx]
  simp
 got:=fun l y r e=>by
  unfold textR at e
  split at e
  ·
   rename_i h
   rw [st_eq2 _ h] at e
   cases e
  ·
   rename_i h
   have hb:(idR (l,false)).2.2=false:=by simpa using h
   obtain ⟨h1,h2⟩:=idC.got l (idR (l,false)).1 (idR (l,false)).2.1 (st_eq _ hb)
   split at e
   ·
    rename_i hle
    simp only [Prod.mk.injEq,and_true] at e
    obtain ⟨e1,e2⟩:=e
    have hl:y.length=(idR (l,false)).1:=by rw [← e1,List.length_take];omega
    refine ⟨?_,by rw [hl];exact h2⟩
    unfold textL
    rw [hl,List.append_assoc,← e1,← e2,List.take_append_drop]
    exact h1
   ·
    cases e
 bad:=fun l=>by
  unfold textR
  have h:=idC.bad l
  rw [if_pos (by rw [h]),h]
def truthR (s:List UInt8 × Bool):Bool × (List UInt8 × Bool):=if s.2=true then (false,s) else match s.1 with
 | c :: r=>if c.toNat≤1 then (c==1,(r,false)) else (false,(s.1,true))
 | []=>(false,([],true))
def truthL (b:Bool):List UInt8:=[if b=true then 1 else 0]
theorem truthC:Codec truthR truthL (fun _=>True) where
 put:=fun x _ t=>by cases x<;>rfl
 got:=fun l y r e=>by
  unfold truthR at e
  rw [if_neg (by simp)] at e
  cases l with
  | nil=>cases e
  | cons c l=>
   simp only at e
   split at e
   ·
    rename_i h
    simp only [Prod.mk.injEq,and_true] at e
    obtain ⟨rfl,rfl⟩:=e
    refine ⟨?_,trivial⟩
    have hc:c=0∨c=1:=by
     rcases Nat.lt_or_ge c.toNat 1 with h1 | h1
     ·
      left;exact UInt8.toNat_inj.1 (by show c.toNat=0;omega)
     ·
      right;exact UInt8.toNat_inj.1 (by show c.toNat=1;omega)
    rcases hc with rfl | rfl<;>rfl
   ·
    cases e
 bad:=fun l=>by unfold truthR;rw [if_pos rfl]
def someR {α:Type} (f:List UInt8 × Bool→α × (List UInt8 × Bool)) (s:List UInt8 × Bool):List α × (List UInt8 × Bool):=manyR f (idR s).1 (if (idR s).2.1.length < (idR s).1 then ((idR s).2.1,true) else (idR s).2)
def listL {α:Type} (lay:α→List UInt8) (l:List α):List UInt8:=pack l.length++l.flatMap lay
theorem Codec.some {α:Type} {f:List UInt8 × Bool→α × (List UInt8 × Bool)} {lf:α→List UInt8} {pf:α→Prop} (h:Codec f lf pf) (h1:∀ x,1≤(lf x).length):Codec (someR f) (listL lf) (fun l=>l.length < 2 ^ 64∧∀ x∈l,pf x) where
 put:=fun x hx t=>by
  unfold someR listL
  rw [List.append_assoc,idC.put _ hx.1]
  have hl:x.length≤(x.flatMap lf++t).length:=by
   rw [List.length_append]
   have:x.length≤(x.flatMap lf).length:=by
    clear hx
    induction x with
    | nil=>simp
    | cons a x ih=>
     rw [List.flatMap_cons,List.length_append,List.length_cons]
     have:=h1 a
     omega
   omega
  simp only
  rw [if_neg (by omega)]
  exact manyR_put h x hx.2 t
 got:=fun l y r e=>by
  unfold someR at e
  split at e
  ·
   rw [manyR_bad] at e
   cases e
  ·
   have hb:(idR (l,false)).2.2=false:=by
    cases hb:(idR (l,false)).2.2 with
    | false=>rfl
    | true=>
     rw [st_eq2 _ hb,manyR_bad] at e
     cases e
   have h2:(idR (l,false)).2=((idR (l,false)).2.1,false):=st_eq2 _ hb
   obtain ⟨h3,h4⟩:=idC.got l (idR (l,false)).1 (idR (l,false)).2.1 (Prod.ext rfl h2)
   rw [h2] at e
   obtain ⟨h5,h6,h7⟩:=manyR_got h _ _ _ _ e
   refine ⟨?_,by rw [h5];exact h4,h7⟩
   unfold listL
   rw [h5,List.append_assoc,← h6]
   exact h3
 bad:=fun l=>by
  unfold someR
  have h:=idC.bad l
  rw [h]
  simp only
  split
  ·
   rw [manyR_bad]
  ·
   rw [manyR_bad]
end Tryst
