import Derived.Lib.Hide
import Derived.Lib.ItoaNum
import Derived.Lib.Strings
import Derived.Lib.ItoaLen
import Derived.Lib.Bytealg
import Derived.WalkKit
import Derived.Lib.IndexMore
import Derived.RowKit
set_option linter.all false
namespace Tryst
theorem Zh {p : Prop} (h : p) : Go.RowKit.Hid p := Go.Lib.hid h
end Tryst
namespace Tryst
def jQY:Nat->Nat->List UInt8
 | 0,n=>[UInt8.ofNat n]
 | k+1,n=>if n < 128 then [UInt8.ofNat n] else UInt8.ofNat (128+n % 128) :: jQY k (n / 128)
def pack (n:Nat):List UInt8:=jQY 9 n
def unpF:Nat->Nat->Nat->List UInt8->Nat × Nat × Nat
 | 0,_,_,_=>(0,0,2)
 | _+1,_,_,[]=>(0,0,3)
 | f+1,i,n,c :: l=>
  if 128<=c.toNat then unpF f (i+1) (n+(c.toNat % 128)*2 ^ (7*i)) l
  else if (c.toNat=0/\0 < i)∨(i=9/\1 < c.toNat) then (0,0,2)
  else (n+(c.toNat % 128)*2 ^ (7*i),i+1,0)
def unp (l:List UInt8):Nat × Nat × Nat:=unpF 10 0 0 l
def fold (n:Int):Nat:=if 0<=n then (2*n).toNat else (-2*n - 1).toNat
def Kw (n:Nat):Int:=if n % 2=0 then (n / 2:Nat) else -((n / 2:Nat):Int) - 1
theorem jQp (k n:Nat):1<=(jQY k n).length/\(jQY k n).length<=k+1:=by
 induction k generalizing n with
 | zero=>simp [jQY]
 | succ k ih=>
  unfold jQY;have:=ih (n / 128)
  split<;>simp<;>omega
theorem qJP (k:Nat):∀ (n i m:Nat) (t:List UInt8),n < 128 ^ (k+1)->k+i<=9->(0 < i->0 < n)->(i=9->n < 2)->(∀ j,i+j=9->n / 128 ^ j < 2)->
  unpF (10 - i) i m (jQY k n++t)=(m+n*2 ^ (7*i),i+(jQY k n).length,0):=by
 induction k with
 | zero=>
  intro n i m t h0 h1 h2 h3 h4;have hn:n < 128:=by simpa using h0
  obtain ⟨f,hf⟩:∃ f,10 - i=f+1:=⟨9 - i,by omega⟩;simp only [jQY,hf,List.cons_append,List.nil_append,unpF];have hc:(UInt8.ofNat n).toNat=n:=by simp;omega
  rw [hc,if_neg (by omega),if_neg (by omega),Nat.mod_eq_of_lt hn];simp
 | succ k ih=>
  intro n i m t h0 h1 h2 h3 h4;obtain ⟨f,hf⟩:∃ f,10 - i=f+1:=⟨9 - i,by omega⟩;unfold jQY
  by_cases hn:n < 128
  ·
   rw [if_pos hn];simp only [hf,List.cons_append,List.nil_append,unpF];have hc:(UInt8.ofNat n).toNat=n:=by simp;omega
   rw [hc,if_neg (by omega),if_neg (by omega),Nat.mod_eq_of_lt hn];simp
  ·
   rw [if_neg hn];simp only [hf,List.cons_append,unpF];have hc:(UInt8.ofNat (128+n % 128)).toNat=128+n % 128:=by simp;omega
   rw [hc,if_pos (by omega)];have hm:(128+n % 128) % 128=n % 128:=by omega
   rw [hm];have hf':f=10 - (i+1):=by omega
   rw [hf',ih (n / 128) (i+1) _ t ?_ (by omega) (fun _=>by omega) ?_ ?_]
   ·
    have h2:2 ^ (7*(i+1))=128*2 ^ (7*i):=by rw [Nat.mul_add,Nat.pow_add];omega
    have h5:n / 128*(128*2 ^ (7*i))=(n / 128*128)*2 ^ (7*i):=by rw [Nat.mul_assoc]
    rw [h2,h5]
    have h6:n % 128*2 ^ (7*i)+n / 128*128*2 ^ (7*i)=n*2 ^ (7*i):=by
     rw [<- Nat.add_mul];congr 1;omega
    simp only [List.length_cons,Prod.mk.injEq,and_true];exact ⟨by omega,by omega⟩
   · rw [Nat.div_lt_iff_lt_mul (by decide)];rw [Nat.pow_succ] at h0;exact h0
   · intro h9;have:=h4 1 (by omega);simpa using this
   · intro j hj;have:=h4 (j+1) (by omega);rw [Nat.pow_succ,Nat.mul_comm,<- Nat.div_div_eq_div_mul] at this;exact this
theorem kQt (n:Nat) (h:n < 2 ^ 64) (t:List UInt8):unp (pack n++t)=(n,(pack n).length,0):=by
 have:=qJP 9 n 0 0 t (Nat.lt_of_lt_of_le h (by decide)) (by omega) (by omega) (by omega) (fun j hj=>by
  obtain rfl:j=9:=by omega
  exact (Nat.div_lt_iff_lt_mul (by decide)).2 (Nat.lt_of_lt_of_le h (by decide)))
 simpa [unp,pack] using this
theorem xJm (f:Nat):∀ (i m n k:Nat) (l:List UInt8),f+i=10->m < 2 ^ (7*i)->unpF f i m l=(n,k,0)->
  ∃ q,n=m+q*2 ^ (7*i)/\i < k/\k<=i+l.length/\(0 < i->0 < q)/\q*2 ^ (7*i) < 2 ^ 64/\l.take (k - i)=jQY (9 - i) q/\k<=10:=by
 induction f with
 | zero=>intro i m n k l _ _ h;simp [unpF] at h
 | succ f ih=>
  intro i m n k l hi hm h;cases l with
  | nil=>simp [unpF] at h
  | cons c l=>
   unfold unpF at h;have hcl:=c.toNat_lt;have hp:0 < 2 ^ (7*i):=Nat.pow_pos (by decide)
   by_cases h1:128<=c.toNat
   ·
    rw [if_pos h1] at h;have hpow:2 ^ (7*(i+1))=128*2 ^ (7*i):=by rw [Nat.mul_add,Nat.pow_add];omega
    have hlt:c.toNat % 128 < 128:=Nat.mod_lt _ (by decide)
    have hmm:m+c.toNat % 128*2 ^ (7*i) < 2 ^ (7*(i+1)):=by
     rw [hpow]
     calc m+c.toNat % 128*2 ^ (7*i) < 2 ^ (7*i)+c.toNat % 128*2 ^ (7*i):=by omega
      _=(c.toNat % 128+1)*2 ^ (7*i):=by rw [Nat.add_mul];omega
      _<=128*2 ^ (7*i):=Nat.mul_le_mul_right _ (by omega)
    obtain ⟨q,e1,e2,e3,e4,e5,e6,e7⟩:=ih (i+1) _ n k l (by omega) hmm h;have hq:0 < q:=e4 (by omega);refine ⟨c.toNat % 128+128*q,?_,by omega,by simp;omega,fun _=>by omega,?_,?_,e7⟩
    ·
     rw [e1,hpow,Nat.add_mul];have:q*(128*2 ^ (7*i))=128*q*2 ^ (7*i):=by rw [<- Nat.mul_assoc,Nat.mul_comm q]
     omega
    ·
     -- below 2 ^ 64
     have h9:i<=8:=by
      by_cases h9:i=9
      ·
       subst h9;have:f=0:=by omega
       subst this;simp [unpF] at h
      · omega
     have hd:2 ^ (7*(i+1))*2 ^ (64 - 7*(i+1))=2 ^ 64:=by rw [<- Nat.pow_add];congr 1;omega
     have hq2:q < 2 ^ (64 - 7*(i+1)):=by
      refine Nat.lt_of_mul_lt_mul_right (a:=2 ^ (7*(i+1))) ?_;rw [Nat.mul_comm (2 ^ (64 - 7*(i+1))),hd];exact e5
     calc (c.toNat % 128+128*q)*2 ^ (7*i) < (128*(q+1))*2 ^ (7*i):=Nat.mul_lt_mul_of_pos_right (by omega) hp
      _=(q+1)*2 ^ (7*(i+1)):=by rw [hpow,Nat.mul_comm 128,Nat.mul_assoc]
      _<=2 ^ (64 - 7*(i+1))*2 ^ (7*(i+1)):=Nat.mul_le_mul_right _ hq2
      _=2 ^ 64:=by rw [Nat.mul_comm,hd]
    ·
     have h9:i<=8:=by omega
     obtain ⟨j,hj⟩:∃ j,9 - i=j+1:=⟨8 - i,by omega⟩;obtain ⟨d,hd⟩:∃ d,k - i=d+1:=⟨k - i - 1,by omega⟩;rw [hj,hd,List.take_succ_cons];unfold jQY;rw [if_neg (by omega)];have h10:(c.toNat % 128+128*q) / 128=q:=by omega
     have h11:128+(c.toNat % 128+128*q) % 128=c.toNat:=by omega
     rw [h10,h11,UInt8.ofNat_toNat]
     congr 1
     rw [show d=k - (i+1) by omega,e6]
     congr 1
     omega
   ·
    rw [if_neg h1] at h;have hc:c.toNat % 128=c.toNat:=Nat.mod_eq_of_lt (by omega)
    by_cases h2:(c.toNat=0/\0 < i)∨(i=9/\1 < c.toNat)
    · rw [if_pos h2] at h;simp at h
    ·
     rw [if_neg h2] at h;simp only [Prod.mk.injEq,and_true] at h;obtain ⟨rfl,rfl⟩:=h;refine ⟨c.toNat % 128,rfl,by omega,by simp,fun _=>by omega,?_,?_,by omega⟩
     ·
      rw [hc]
      by_cases h9:i=9
      ·
       subst h9;have:c.toNat<=1:=by omega
       calc c.toNat*2 ^ (7*9)<=1*2 ^ (7*9):=Nat.mul_le_mul_right _ this
        _ < 2 ^ 64:=by decide
      ·
       calc c.toNat*2 ^ (7*i) < 128*2 ^ (7*i):=Nat.mul_lt_mul_of_pos_right (by omega) hp
        _=2 ^ (7+7*i):=by rw [Nat.pow_add]
        _<=2 ^ 64:=Nat.pow_le_pow_right (by decide) (by omega)
     ·
      rw [hc];have:i+1 - i=1:=by omega
      rw [this];cases h9:9 - i with
      | zero=>simp [jQY]
      | succ j=>unfold jQY;rw [if_pos (by omega)];simp
theorem qQf {l:List UInt8} {n k:Nat} (h:unp l=(n,k,0)):n < 2 ^ 64/\0 < k/\k<=l.length/\k<=10/\l.take k=pack n:=by
 obtain ⟨q,e1,e2,e3,_,e5,e6,e7⟩:=xJm 10 0 0 n k l (by omega) (by decide) h;simp at e1 e3 e5 e6;subst e1;exact ⟨by omega,by omega,e3,e7,e6⟩
theorem zJT (f:Nat):∀ (i m:Nat) (l:List UInt8),(unpF f i m l).2.2=0∨unpF f i m l=(0,0,2)∨unpF f i m l=(0,0,3):=by
  induction f with
  | zero=>intro i m l;simp [unpF]
  | succ f ih=>
    intro i m l;cases l with
    | nil=>simp [unpF]
    | cons c l => unfold unpF; split; · exact ih _ _ _
                  · split<;>simp
theorem kQs (l:List UInt8):(unp l).2.2=0∨unp l=(0,0,2)∨unp l=(0,0,3):=zJT _ _ _ _
theorem zQb (n:Int):Kw (fold n)=n:=by
 unfold fold Kw;split<;>split<;>omega
theorem zQS (n:Nat):fold (Kw n)=n:=by
 unfold fold Kw;split<;>split<;>omega
theorem jQS {n:Int} (h:-2 ^ 63<=n) (h':n < 2 ^ 63):fold n < 2 ^ 64:=by
 unfold fold;split<;>omega
open Go
structure V where
 num:Bool
 n:Int
 s:List UInt8
theorem V.ext' {a b:V} (h1:a.num=b.num) (h2:a.n=b.n) (h3:a.s=b.s):a=b:=by
 cases a;cases b;simp_all
def V.zero:V:=⟨false,0,[]⟩
def V.May (v:V):Prop:=if v.num then v.s=[] else v.n=0/\v.s.length<=60
instance (v:V):Decidable v.May:=by unfold V.May;exact inferInstance
def V.Fits (v:V):Prop:=-9223372036854775808<=v.n/\v.n<=9223372036854775807
def V.lay (v:V):List UInt8:=if v.num then 1 :: pack (fold v.n) else 2 :: (pack v.s.length++v.s)
def Jp (l:List UInt8):V × Nat × Nat:=
 match l with
 | []=>(V.zero,0,3)
 | c :: r=>
  if c≠1/\c≠2 then (V.zero,0,2)
  else if (unp r).2.2≠0 then (V.zero,0,(unp r).2.2)
  else if c=1 then (⟨true,Kw (unp r).1,[]⟩,(unp r).2.1+1,0)
  else if 60 < (unp r).1 then (V.zero,0,2)
  else if l.length < (unp r).2.1+1+(unp r).1 then (V.zero,0,3)
  else (⟨false,0,(l.take ((unp r).2.1+1+(unp r).1)).drop ((unp r).2.1+1)⟩,(unp r).2.1+1+(unp r).1,0)
theorem vJL (v:V) (hm:v.May) (hf:v.Fits) (t:List UInt8):Jp (v.lay++t)=(v,v.lay.length,0):=by
 obtain ⟨num,n,s⟩:=v;unfold V.May at hm;unfold V.Fits at hf;unfold V.lay Jp;cases num with
 | true=>
  simp only [if_true] at hm ⊢;subst hm;simp only [List.cons_append];have hlt:fold n < 2 ^ 64:=jQS (by simpa using hf.1) (by have:=hf.2;simp at this;omega);rw [kQt _ hlt,if_neg (by simp)];simp [zQb]
 | false=>
  simp only [Bool.false_eq_true,if_false] at hm ⊢;obtain ⟨rfl,hs⟩:=hm;simp only [List.cons_append,List.append_assoc];have hlt:s.length < 2 ^ 64:=by omega
  rw [kQt _ hlt,if_neg (by simp)];simp only [ne_eq,not_true,if_false];rw [if_neg (by decide),if_neg (by omega),if_neg (by simp;omega)]
  have e:(2 :: (pack s.length++(s++t))).take ((pack s.length).length+1+s.length)=2 :: (pack s.length++s):=by
   rw [show (pack s.length).length+1+s.length=((pack s.length).length+s.length)+1 by omega,List.take_succ_cons,<- List.append_assoc,<- List.length_append,List.take_left]
  rw [e,List.drop_succ_cons,List.drop_left];simp;omega
theorem xQO {l:List UInt8} {v:V} {k:Nat} (h:Jp l=(v,k,0)):v.May/\v.Fits/\0 < k/\k<=l.length/\l.take k=v.lay:=by
 unfold Jp at h;cases l with
 | nil=>simp at h
 | cons c r=>
  simp only at h
  by_cases h1:c≠1/\c≠2
  · rw [if_pos h1] at h;simp at h
  rw [if_neg h1] at h
  by_cases h2:(unp r).2.2≠0
  · rw [if_pos h2] at h;simp at h;omega
  rw [if_neg h2] at h
  have hu:unp r=((unp r).1,(unp r).2.1,0):=by
   have:(unp r).2.2=0:=by omega
   rw [<- this]
  obtain ⟨g1,g2,g3,g4,g5⟩:=qQf hu
  by_cases h3:c=1
  ·
   rw [if_pos h3] at h;simp only [Prod.mk.injEq,and_true] at h;obtain ⟨rfl,rfl⟩:=h;refine ⟨by simp [V.May],?_,by omega,by simp;omega,?_⟩
   ·
    unfold V.Fits Kw;simp only
    split<;>omega
   · rw [List.take_succ_cons,g5,h3];simp [V.lay,zQS]
  ·
   rw [if_neg h3] at h
   have hc2:c=2:=by
    by_cases hc:c=2
    · exact hc
    · exact absurd ⟨h3,hc⟩ h1
   by_cases h4:60 < (unp r).1
   · rw [if_pos h4] at h;simp at h
   rw [if_neg h4] at h
   by_cases h5:(c :: r).length < (unp r).2.1+1+(unp r).1
   · rw [if_pos h5] at h;simp at h
   rw [if_neg h5] at h;simp only [Prod.mk.injEq,and_true] at h;obtain ⟨rfl,rfl⟩:=h;simp only [List.length_cons] at h5
   have e:(c :: r).take ((unp r).2.1+1+(unp r).1)=c :: r.take ((unp r).2.1+(unp r).1):=by
    rw [show (unp r).2.1+1+(unp r).1=(unp r).2.1+(unp r).1+1 by omega,List.take_succ_cons]
   have e2:(r.take ((unp r).2.1+(unp r).1)).drop (unp r).2.1=(r.drop (unp r).2.1).take (unp r).1:=by
    rw [List.drop_take];congr 1;omega
   have hlen:((r.drop (unp r).2.1).take (unp r).1).length=(unp r).1:=by simp;omega
   refine ⟨?_,by simp [V.Fits],by omega,by simp;omega,?_⟩
   · simp only [V.May,Bool.false_eq_true,if_false,true_and];rw [e,List.drop_succ_cons,e2,hlen];omega
   · rw [e];simp only [V.lay,Bool.false_eq_true,if_false];rw [List.drop_succ_cons,e2,hlen,hc2,<- g5,List.take_add]
theorem zJe (l:List UInt8):(Jp l).2.2=0∨((Jp l).1=V.zero/\(Jp l).2.1=0):=by
  unfold Jp;cases l with
  | nil=>simp
  | cons c r => simp only; repeat' split
                all_goals simp
theorem xJN (v:V):0 < v.lay.length:=by unfold V.lay;split<;>simp
open Go.Lib
def Jx (c:UInt8):Bool:=48<=c.toNat&&c.toNat<=57
def kJ5:List UInt8->Nat->Nat
 | [],n=>n
 | c :: l,n=>kJ5 l (n*10+(c.toNat - 48))
def dval (n:Nat) (l:List UInt8):Nat:=kJ5 l n
theorem qYH (n:Nat):dval n []=n:=by unfold dval kJ5;rfl
theorem Yj (n:Nat) (c:UInt8) (l:List UInt8):dval n (c :: l)=dval (n*10+(c.toNat - 48)) l:=by unfold dval;rw [kJ5]
theorem zQc (l r:List UInt8):∀ n,dval n (l++r)=dval (dval n l) r:=by
 induction l with
 | nil=>intro n;rw [List.nil_append,qYH]
 | cons c l ih=>intro n;rw [List.cons_append,Yj,Yj,ih]
theorem xQQ (l:List UInt8):∀ n,n<=dval n l:=by
 induction l with
 | nil=>intro n;rw [qYH];exact Nat.le_refl _
 | cons c l ih=>intro n;rw [Yj];exact Nat.le_trans (by omega) (ih _)
theorem ofNat_toNat {n:Nat} (h:n < 256):(UInt8.ofNat n).toNat=n:=by simp;omega
theorem jQX (u:Nat):dval 0 (decDigits u)=u:=by
 induction u using Nat.strongRecOn with
 | _ u ih=>
  unfold decDigits
  split
  · simp only [Yj,qYH,ofNat_toNat (show 48+u < 256 by omega)];omega
  · rw [zQc,ih (u / 10) (by omega)];simp only [Yj,qYH,ofNat_toNat (show 48+u % 10 < 256 by omega)];omega
theorem Zx (u:Nat):∀ c∈decDigits u,Jx c=true:=by
 induction u using Nat.strongRecOn with
 | _ u ih=>
  unfold decDigits
  split
  · intro c hc;simp at hc;subst hc;simp [Jx];omega
  ·
   intro c hc
   rcases List.mem_append.1 hc with h | h
   · exact ih (u / 10) (by omega) c h
   · simp at h;subst h;simp [Jx];omega
theorem xQB (u:Nat):decDigits u≠[]:=by
 unfold decDigits;split<;>simp
theorem jJF (u:Nat):0 < u->∃ c l,decDigits u=c :: l/\49<=c.toNat/\c.toNat<=57:=by
 induction u using Nat.strongRecOn with
 | _ u ih=>
  intro hu;unfold decDigits
  split
  · refine ⟨_,_,rfl,?_,?_⟩<;>simp<;>omega
  · obtain ⟨c,l,e,h1,h2⟩:=ih (u / 10) (by omega) (by omega);rw [e];exact ⟨c,_,rfl,h1,h2⟩
theorem xQY:decDigits 0=[48]:=by rw [decDigits_one (by decide)];rfl
theorem zQP (l:List UInt8):∀ (hl:l≠[]),(∀ c∈l,Jx c=true)->(∀ c r,l=c :: r->c.toNat=48->r=[])->decDigits (dval 0 l)=l:=by
 have key:∀ (n:Nat) (l:List UInt8),l.length=n->l≠[]->(∀ c∈l,Jx c=true)->(∀ c r,l=c :: r->c.toNat=48->r=[])->decDigits (dval 0 l)=l:=by
  intro n
  induction n with
  | zero=>intro l hn hl;exact absurd (List.eq_nil_of_length_eq_zero hn) hl
  | succ n ih=>
   intro l hn hl hd h0;obtain ⟨i,c,rfl⟩:∃ i c,l=i++[c]:=⟨_,_,(List.dropLast_concat_getLast hl).symm⟩;have hc:Jx c=true:=hd c (by simp);simp only [Jx,Bool.and_eq_true,decide_eq_true_eq] at hc;cases hi:i with
   | nil=>
    simp only [List.nil_append,Yj,qYH];rw [decDigits_one (by omega)]
    congr 1
    apply UInt8.toNat.inj
    rw [ofNat_toNat (by omega)];omega
   | cons b j=>
    have hne:i≠[]:=by rw [hi];simp
    have hb0:b.toNat≠48:=fun hb=>by
     have:=h0 b (j++[c]) (by rw [hi];rfl) hb;simp at this
    have hbd:Jx b=true:=hd b (by rw [hi];simp);simp only [Jx,Bool.and_eq_true,decide_eq_true_eq] at hbd
    have e:=ih i (by simp at hn;omega) hne (fun x hx=>hd x (by simp [hx])) (fun x r hx hx0=>by
     rw [hi] at hx;simp only [List.cons.injEq] at hx;exact absurd (hx.1 ▸ hx0) hb0)
    rw [<- hi,zQc]
    have hpos:1<=dval 0 i:=by
     rw [hi];simp only [Yj,qYH];exact Nat.le_trans (by omega) (xQQ j _)
    simp only [Yj,qYH];unfold decDigits;rw [dif_neg (by omega)];have e1:(dval 0 i*10+(c.toNat - 48)) / 10=dval 0 i:=by omega
    have e2:48+(dval 0 i*10+(c.toNat - 48)) % 10=c.toNat:=by omega
    rw [e1,e2,e,UInt8.ofNat_toNat]
 intro hl hd h0;exact key l.length l rfl hl hd h0
def In64 (z:Int):Prop:=-9223372036854775808<=z/\z<=9223372036854775807
def jQa (l:List UInt8) (k:Nat) (z:Int):Prop:=1<=k/\k<=l.length/\In64 z/\l.take k=itoa z
def scan (most:Nat):Nat->List UInt8->Nat × Nat
 | n,[]=>(n,0)
 | n,c :: l=>
  if Jx c/\¬ (most - (c.toNat - 48)) / 10 < n then ((scan most (n*10+(c.toNat - 48)) l).1,(scan most (n*10+(c.toNat - 48)) l).2+1) else (n,0)
theorem vQq (most:Nat) (hm:10<=most) (l:List UInt8):∀ n,n<=most->
  (scan most n l).2<=l.length/\(scan most n l).1=dval n (l.take (scan most n l).2)/\(scan most n l).1<=most/\(∀ c∈l.take (scan most n l).2,Jx c=true)/\
  (∀ j,j<=l.length->(∀ c∈l.take j,Jx c=true)->dval n (l.take j)<=most->j<=(scan most n l).2):=by
 induction l with
 | nil=>intro n hn;simp [scan,Yj,qYH];omega
 | cons c l ih=>
  intro n hn;unfold scan
  by_cases h:Jx c/\¬ (most - (c.toNat - 48)) / 10 < n
  ·
   rw [if_pos h];have hc:Jx c=true:=h.1;simp only [Jx,Bool.and_eq_true,decide_eq_true_eq] at hc;obtain ⟨h1,h2,h3,h4,h5⟩:=ih (n*10+(c.toNat - 48)) (by omega);refine ⟨by simp;exact h1,?_,h3,?_,?_⟩
   · simp only [List.take_succ_cons,Yj,qYH];exact h2
   ·
    intro x hx;simp only [List.take_succ_cons] at hx
    rcases List.mem_cons.1 hx with rfl | hx
    · exact h.1
    · exact h4 x hx
   ·
    intro j hj hd hv;cases j with
    | zero=>omega
    | succ j=>
     simp only [List.take_succ_cons,Yj,qYH] at hd hv;have:=h5 j (by simpa using hj) (fun x hx=>hd x (by simp [hx])) hv;simp only;omega
  ·
   rw [if_neg h];refine ⟨by simp,by simp [Yj,qYH],hn,by simp,?_⟩;intro j hj hd hv;cases j with
   | zero=>omega
   | succ j=>
    exfalso;simp only [List.take_succ_cons] at hd hv;have hc0:=hd c (by simp);refine h ⟨hc0,?_⟩;have hc:=hc0;simp only [Jx,Bool.and_eq_true,decide_eq_true_eq] at hc;simp only [Yj,qYH] at hv;have:=xQQ (l.take j) (n*10+(c.toNat - 48));omega
def Q2 (l:List UInt8):Int × Nat:=
 match l with
 | []=>(0,0)
 | c :: r=>
  if c.toNat=45 then
   match r with
   | []=>(0,0)
   | d :: _=>if ¬ Jx d∨d.toNat=48 then (0,0) else (-((scan 9223372036854775808 0 r).1:Int),(scan 9223372036854775808 0 r).2+1)
  else if ¬ Jx c then (0,0)
  else if c.toNat=48 then (0,1)
  else ((scan 9223372036854775807 0 l).1,(scan 9223372036854775807 0 l).2)
theorem xQR {l:List UInt8} {c:UInt8} {r:List UInt8} {k:Nat} (h:(c :: l).take k=c :: r):l.take (k - 1)=r/\1<=k:=by
 cases k with
 | zero=>simp at h
 | succ k=>simp at h;exact ⟨by simpa using h,by omega⟩
theorem qQA (l:List UInt8):(Q2 l=(0,0)/\∀ j z,¬ jQa l j z)∨(jQa l (Q2 l).2 (Q2 l).1/\∀ j z,jQa l j z->j<=(Q2 l).2):=by
 cases l with
 | nil=>exact .inl ⟨rfl,fun j z h=>by have h1:=h.1;have h2:=h.2.1;simp at h2;omega⟩
 | cons c r=>
  have hdig:∀ j z,jQa (c :: r) j z->c.toNat≠45->0<=z/\(c :: r).take j=decDigits z.toNat:=fun j z h hc=>by
   have e:=h.2.2.2;unfold itoa at e
   split at e
   · obtain ⟨j,rfl⟩:∃ i,j=i+1:=⟨j - 1,by have:=h.1;omega⟩;simp only [List.take_succ_cons,List.cons.injEq] at e;exact absurd (by rw [e.1];rfl) hc
   · exact ⟨by omega,e⟩
  unfold Q2
  by_cases h45:c.toNat=45
  ·
   simp only [h45,if_true];have hc:c=45:=UInt8.toNat.inj (by rw [h45];rfl)
   have neg:∀ j z,jQa (c :: r) j z->z < 0/\r.take (j - 1)=decDigits z.natAbs/\2<=j:=fun j z h=>by
    have e:=h.2.2.2;unfold itoa at e
    split at e
    ·
     rename_i hz;have e':=xQR (by rw [e,hc]);refine ⟨hz,e'.1,?_⟩;have h1:=e'.2
     by_cases hj:j=1
     · subst hj;exact absurd e'.1.symm (by simpa using xQB _)
     · omega
    · exfalso;have h1:=Zx z.toNat;rw [<- e] at h1;obtain ⟨j,rfl⟩:∃ i,j=i+1:=⟨j - 1,by have:=h.1;omega⟩;have:=h1 c (by simp);simp [Jx,h45] at this
   cases r with
   | nil=>
    refine .inl ⟨rfl,fun j z h=>?_⟩;have h2:=(neg j z h).2.1;rw [List.take_nil] at h2;exact xQB _ h2.symm
   | cons d r=>
    simp only
    by_cases hd:¬ Jx d∨d.toNat=48
    ·
     rw [if_pos hd];refine .inl ⟨rfl,fun j z h=>?_⟩;obtain ⟨hz,e,hj⟩:=neg j z h;obtain ⟨x,t,ex,hx1,hx2⟩:=jJF z.natAbs (by omega);obtain ⟨i,rfl⟩:∃ i,j=i+2:=⟨j - 2,by omega⟩;rw [ex,show i+2 - 1=i+1 by omega,List.take_succ_cons] at e;have:d=x:=(List.cons.inj e).1;subst this
     rcases hd with hd | hd
     · simp [Jx] at hd;omega
     · omega
    ·
     rw [if_neg hd]
     have hd1:Jx d=true:=by
      by_cases h:Jx d=true
      · exact h
      · exact absurd (.inl h) hd
     have hd2:d.toNat≠48:=fun h=>hd (.inr h)
     obtain ⟨s1,s2,s3,s4,s5⟩:=vQq 9223372036854775808 (by decide) (d :: r) 0 (by decide);generalize hp:scan 9223372036854775808 0 (d :: r)=p at *
     have hp1:1<=p.2:=s5 1 (by simp) (by simpa using hd1) (by
      simp only [List.take_succ_cons,List.take_zero,Yj,qYH];have:=hd1;simp only [Jx,Bool.and_eq_true,decide_eq_true_eq] at this;omega)
     have hdv:dval 0 ((d :: r).take p.2)=p.1:=s2.symm;obtain ⟨q,hq⟩:∃ q,p.2=q+1:=⟨p.2 - 1,by omega⟩
     have hpos:1<=p.1:=by
      rw [<- hdv,hq];simp only [List.take_succ_cons,Yj,qYH];have:=hd1;simp only [Jx,Bool.and_eq_true,decide_eq_true_eq] at this;exact Nat.le_trans (by omega) (xQQ _ _)
     have hdec:decDigits p.1=(d :: r).take p.2:=by
      rw [<- hdv];refine zQP _ (by rw [hq];simp) s4 fun x t hx hx0=>?_
      rw [hq,List.take_succ_cons] at hx;exact absurd ((List.cons.inj hx).1 ▸ hx0) hd2
     refine .inr ⟨⟨by simp,by simpa using s1,⟨by omega,by omega⟩,?_⟩,?_⟩
     ·
      simp only [List.take_succ_cons];unfold itoa;rw [if_pos (by omega),hc]
      congr 1
      rw [show (-(p.1:Int)).natAbs=p.1 by omega,hdec]
     ·
      intro j z h;obtain ⟨hz,e,hj⟩:=neg j z h;have hjl:=h.2.1
      have:=s5 (j - 1) (by simp at hjl ⊢;omega) (by rw [e];exact Zx _) (by
       rw [e,jQX];have:=h.2.2.1.1;omega)
      simp only;omega
  ·
   simp only;rw [if_neg h45]
   by_cases hd:¬ Jx c
   · rw [if_pos hd];refine .inl ⟨rfl,fun j z h=>?_⟩;obtain ⟨_,e⟩:=hdig j z h h45;have h1:=Zx z.toNat;rw [<- e] at h1;obtain ⟨j,rfl⟩:∃ i,j=i+1:=⟨j - 1,by have:=h.1;omega⟩;exact hd (h1 c (by simp))
   ·
    rw [if_neg hd]
    have hd1:Jx c=true:=by
     by_cases h:Jx c=true
     · exact h
     · exact absurd h hd
    by_cases h48:c.toNat=48
    ·
     rw [if_pos h48];have hc:c=48:=UInt8.toNat.inj (by rw [h48];rfl);refine .inr ⟨⟨by simp,by simp,⟨by decide,by decide⟩,?_⟩,?_⟩
     · simp only [List.take_succ_cons,List.take_zero];unfold itoa;rw [if_neg (by decide),hc];exact xQY.symm
     ·
      intro j z h;obtain ⟨hz,e⟩:=hdig j z h h45
      by_cases hz0:z=0
      · subst hz0;have:=congrArg List.length e;rw [show (0:Int).toNat=0 from rfl,xQY] at this;have h2:=h.2.1;simp at this h2;simp only;omega
      · obtain ⟨x,t,ex,hx1,hx2⟩:=jJF z.toNat (by omega);obtain ⟨j,rfl⟩:∃ i,j=i+1:=⟨j - 1,by have:=h.1;omega⟩;rw [ex,List.take_succ_cons] at e;have:=(List.cons.inj e).1;subst this;omega
    ·
     rw [if_neg h48];obtain ⟨s1,s2,s3,s4,s5⟩:=vQq 9223372036854775807 (by decide) (c :: r) 0 (by decide);generalize hp:scan 9223372036854775807 0 (c :: r)=p at *
     have hp1:1<=p.2:=s5 1 (by simp) (by simpa using hd1) (by
      simp only [List.take_succ_cons,List.take_zero,Yj,qYH];have:=hd1;simp only [Jx,Bool.and_eq_true,decide_eq_true_eq] at this;omega)
     have hdv:dval 0 ((c :: r).take p.2)=p.1:=s2.symm;obtain ⟨q,hq⟩:∃ q,p.2=q+1:=⟨p.2 - 1,by omega⟩
     have hdec:decDigits p.1=(c :: r).take p.2:=by
      rw [<- hdv];refine zQP _ (by rw [hq];simp) s4 fun x t hx hx0=>?_
      rw [hq,List.take_succ_cons] at hx;exact absurd ((List.cons.inj hx).1 ▸ hx0) h48
     refine .inr ⟨⟨hp1,s1,⟨by omega,by omega⟩,?_⟩,?_⟩
     · unfold itoa;rw [if_neg (by omega)];simp only [Int.toNat_natCast,hdec]
     ·
      intro j z h;obtain ⟨hz,e⟩:=hdig j z h h45
      exact s5 j h.2.1 (by rw [e];exact Zx _) (by
       rw [e,jQX];have:=h.2.2.1.2;omega)
end Tryst
namespace Tryst
open Go Go.Lib
def esc1 (c:UInt8):List UInt8:=if c=34∨c=92 then [92,c] else [c]
def esc (t:List UInt8):List UInt8:=t.flatMap esc1
def wr (t:List UInt8):List UInt8:=34 :: (esc t++[34])
theorem qQ0 (c:UInt8) (t:List UInt8):esc (c :: t)=esc1 c++esc t:=rfl
theorem vJU (c:UInt8) (t:List UInt8):esc (t++[c])=esc t++esc1 c:=by simp [esc]
def V.write (v:V):List UInt8:=if v.num then itoa v.n else wr v.s
def txtF:List UInt8->Nat->Option (List UInt8 × Nat)
 | [],_=>none
 | c :: l,n=>
  if c=34 then some ([],1)
  else if c=92 then
   match l with
   | []=>none
   | d :: r=>if d=34∨d=92 then (if n=60 then none else (txtF r (n+1)).map fun p=>(d :: p.1,p.2+2)) else none
  else if n=60 then none else (txtF l (n+1)).map fun p=>(c :: p.1,p.2+1)
theorem kQX (l:List UInt8) (n:Nat):txtF (34 :: l) n=some ([],1):=by rw [txtF.eq_def];simp
theorem zQm (d:UInt8) (r:List UInt8) (n:Nat):txtF (92 :: d :: r) n=if d=34∨d=92 then (if n=60 then none else (txtF r (n+1)).map fun p=>(d :: p.1,p.2+2)) else none:=by
 rw [txtF.eq_def];simp
theorem kQi {c:UInt8} (h1:c≠34) (h2:c≠92) (l:List UInt8) (n:Nat):txtF (c :: l) n=if n=60 then none else (txtF l (n+1)).map fun p=>(c :: p.1,p.2+1):=by
 rw [txtF.eq_def];simp only;rw [if_neg h1,if_neg h2]
theorem xJZ (k:Nat):∀ (l:List UInt8) (n:Nat) (t:List UInt8) (q:Nat),l.length<=k->n<=60->txtF l n=some (t,q)->
  q<=l.length/\l.take q=esc t++[34]/\n+t.length<=60:=by
 induction k with
 | zero=>
  intro l n t q hl hn h;have:l=[]:=List.eq_nil_of_length_eq_zero (by omega);subst this;simp [txtF] at h
 | succ k ih=>
  intro l n t q hl hn h;cases l with
  | nil=>simp [txtF] at h
  | cons c l=>
   unfold txtF at h
   by_cases h1:c=34
   · rw [if_pos h1] at h;simp only [Option.some.injEq,Prod.mk.injEq] at h;obtain ⟨rfl,rfl⟩:=h;subst h1;simp [esc];omega
   rw [if_neg h1] at h
   by_cases h2:c=92
   ·
    rw [if_pos h2] at h;cases l with
    | nil=>simp at h
    | cons d r=>
     simp only at h
     by_cases h3:d=34∨d=92
     ·
      rw [if_pos h3] at h
      by_cases h4:n=60
      · rw [if_pos h4] at h;simp at h
      rw [if_neg h4] at h;cases hr:txtF r (n+1) with
      | none=>rw [hr] at h;simp at h
      | some p=>
       rw [hr] at h;simp only [Option.map_some,Option.some.injEq,Prod.mk.injEq] at h;obtain ⟨rfl,rfl⟩:=h;obtain ⟨g1,g2,g3⟩:=ih r (n+1) p.1 p.2 (by simp at hl;omega) (by omega) hr;refine ⟨by simp;omega,?_,by simp;omega⟩;rw [show p.2+2=p.2+1+1 by omega,List.take_succ_cons,List.take_succ_cons,g2,qQ0];simp [esc1,h3,h2]
     · rw [if_neg h3] at h;simp at h
   rw [if_neg h2] at h
   by_cases h4:n=60
   · rw [if_pos h4] at h;simp at h
   rw [if_neg h4] at h;cases hr:txtF l (n+1) with
   | none=>rw [hr] at h;simp at h
   | some p=>
    rw [hr] at h;simp only [Option.map_some,Option.some.injEq,Prod.mk.injEq] at h;obtain ⟨rfl,rfl⟩:=h;obtain ⟨g1,g2,g3⟩:=ih l (n+1) p.1 p.2 (by simp at hl;omega) (by omega) hr;refine ⟨by simp;omega,?_,by simp;omega⟩;rw [List.take_succ_cons,g2,qQ0];simp [esc1,h1,h2]
def J0 (l:List UInt8):V × Nat:=
 match l with
 | []=>(V.zero,0)
 | c :: r=>
  if c=34 then (match txtF r 0 with | some p=>(⟨false,0,p.1⟩,p.2+1) | none=>(V.zero,0))
  else if (Q2 (c :: r)).2=0 then (V.zero,0) else (⟨true,(Q2 (c :: r)).1,[]⟩,(Q2 (c :: r)).2)
theorem vQG (t:List UInt8):(esc t).length<=2*t.length:=by
 induction t with
 | nil=>simp [esc]
 | cons c t ih=>rw [qQ0];simp only [esc1];split<;>simp<;>omega
theorem qJc {l:List UInt8} {v:V} {k:Nat} (h:J0 l=(v,k)) (hk:k≠0):v.May/\v.Fits/\k<=l.length/\l.take k=v.write:=by
 unfold J0 at h;cases l with
 | nil=>simp at h;omega
 | cons c r=>
  simp only at h
  by_cases h1:c=34
  ·
   rw [if_pos h1] at h;cases ht:txtF r 0 with
   | none=>rw [ht] at h;simp at h;omega
   | some p=>
    rw [ht] at h;simp only [Prod.mk.injEq] at h;obtain ⟨rfl,rfl⟩:=h;obtain ⟨g1,g2,g3⟩:=xJZ r.length r 0 p.1 p.2 (Nat.le_refl _) (by omega) ht;refine ⟨by simp [V.May];omega,by simp [V.Fits],by simp;omega,?_⟩;rw [List.take_succ_cons,g2,h1];simp [V.write,wr]
  ·
   rw [if_neg h1] at h
   by_cases h2:(Q2 (c :: r)).2=0
   · rw [if_pos h2] at h;simp at h;omega
   ·
    rw [if_neg h2] at h;simp only [Prod.mk.injEq] at h;obtain ⟨rfl,rfl⟩:=h
    rcases qQA (c :: r) with ⟨h3,_⟩ | ⟨⟨_,g2,g3,g4⟩,_⟩
    · rw [h3] at h2;simp at h2
    · exact ⟨by simp [V.May],g3,g2,by simp [V.write,g4]⟩
theorem qQb (v:V) (hm:v.May) (hf:v.Fits):v.write.length<=200:=by
 unfold V.May at hm;unfold V.write
 split
 · have:=itoa_length_le v.n hf.1 hf.2;omega
 · rename_i hn;rw [if_neg hn] at hm;have:=vQG v.s;simp [wr];omega
end Tryst
namespace Tryst
open Go Go.Lib
def qQm (n m:Int) (l:List UInt8):Prop:=
 m.natAbs<=n.natAbs/\(0<=n->0<=m)/\(n < 0->m<=0)/\((l=[]/\m=n)∨(l≠[]/\decDigits n.natAbs=(if m=0 then [] else decDigits m.natAbs)++l))
theorem qQm.start (n:Int):qQm n n []:=⟨Nat.le_refl _,fun h=>h,fun h=>by omega,.inl ⟨rfl,rfl⟩⟩
theorem qQm.step {n m:Int} {l:List UInt8} (h:qQm n m l) (hm:m≠0∨l=[]):qQm n (m.tdiv 10) (UInt8.ofNat (48+m.natAbs % 10) :: l):=by
 obtain ⟨h1,h2,h3,h4⟩:=h
 have ha:(m.tdiv 10).natAbs=m.natAbs / 10:=by
  rw [Int.natAbs_tdiv];rfl
 refine ⟨by omega,fun h=>Int.tdiv_nonneg (h2 h) (by decide),fun h=>?_,.inr ⟨by simp,?_⟩⟩
 ·
  have:=h3 h;have e:m=-((m.natAbs:Nat):Int):=by omega
  rw [e,Int.neg_tdiv];have:0<=((m.natAbs:Nat):Int).tdiv 10:=Int.tdiv_nonneg (by omega) (by decide);omega
 ·
  have hz:(m.tdiv 10=0)↔m.natAbs < 10:=by rw [<- Int.natAbs_eq_zero,ha];omega
  have key:decDigits m.natAbs=(if m.tdiv 10=0 then [] else decDigits (m.tdiv 10).natAbs)++[UInt8.ofNat (48+m.natAbs % 10)]:=by
   by_cases h10:m.natAbs < 10
   · rw [if_pos (hz.2 h10),decDigits_one h10,Nat.mod_eq_of_lt h10];rfl
   ·
    rw [if_neg (fun h=>h10 (hz.1 h)),ha]
    conv=>lhs;unfold decDigits
    rw [dif_neg h10]
  rcases h4 with ⟨rfl,rfl⟩ | ⟨hl,h5⟩
  · exact key
  · have hm0:m≠0:=hm.resolve_right hl;rw [if_neg hm0,key] at h5;rw [h5,List.append_assoc];rfl
theorem qQm.done {n:Int} {l:List UInt8} (h:qQm n 0 l) (hl:l≠[]):decDigits n.natAbs=l:=by
 obtain ⟨_,_,_,h4⟩:=h
 rcases h4 with ⟨h5,_⟩ | ⟨_,h5⟩
 · exact absurd h5 hl
 · simpa using h5
theorem qQm.len {n m:Int} {l:List UInt8} (h:qQm n m l) (h0:-9223372036854775808<=n) (h1:n<=9223372036854775807):l.length<=100:=by
 obtain ⟨_,_,_,h4⟩:=h
 rcases h4 with ⟨rfl,_⟩ | ⟨_,h5⟩
 · simp
 ·
  have:=congrArg List.length h5;rw [List.length_append] at this;have h6:=itoa_length_le n h0 h1;unfold itoa at h6
  split at h6
  · simp at h6;omega
  ·
   have e:n.toNat=n.natAbs:=by omega
   rw [e] at h6;omega
end Tryst
namespace Tryst
open Go Go.Lib
def qYG (l:List UInt8) (k:Nat) (t:List UInt8):Prop:=
 1<=k/\t.length<=60/\txtF (l.drop 1) 0=(txtF (l.drop k) t.length).map fun p=>(t++p.1,p.2+(k - 1))
theorem qYG.start (l:List UInt8):qYG l 1 []:=by
 refine ⟨by omega,by simp,?_⟩;cases txtF (l.drop 1) 0<;>simp
theorem qYG.quote {l:List UInt8} {k:Nat} {t:List UInt8} (h:qYG l k t) (hk:k < l.length) (hc:l[k]=34):txtF (l.drop 1) 0=some (t,k):=by
 obtain ⟨h1,h2,h3⟩:=h;rw [h3,List.drop_eq_getElem_cons hk,hc,kQX];simp;omega
theorem qYG.stop {l:List UInt8} {k:Nat} {t:List UInt8} (h:qYG l k t) (hk:l.length<=k):txtF (l.drop 1) 0=none:=by
 rw [h.2.2,List.drop_eq_nil_of_le hk];rfl
theorem qYG.escEnd {l:List UInt8} {k:Nat} {t:List UInt8} (h:qYG l k t) (hk:k < l.length) (hc:l[k]=92) (he:l.length<=k+1):txtF (l.drop 1) 0=none:=by
 rw [h.2.2,List.drop_eq_getElem_cons hk,hc,List.drop_eq_nil_of_le he,txtF.eq_def];simp
theorem qYG.escBad {l:List UInt8} {k:Nat} {t:List UInt8} (h:qYG l k t) (hk:k+1 < l.length) (hc:l[k]=92) (hd:¬ (l[k+1]=34∨l[k+1]=92)):txtF (l.drop 1) 0=none:=by
 rw [h.2.2,List.drop_eq_getElem_cons (by omega),hc,List.drop_eq_getElem_cons hk,zQm,if_neg hd];rfl
theorem qYG.escFull {l:List UInt8} {k:Nat} {t:List UInt8} (h:qYG l k t) (hk:k+1 < l.length) (hc:l[k]=92) (ht:t.length=60):txtF (l.drop 1) 0=none:=by
 rw [h.2.2,List.drop_eq_getElem_cons (by omega),hc,List.drop_eq_getElem_cons hk,zQm]
 by_cases hd:l[k+1]=34∨l[k+1]=92
 · rw [if_pos hd,if_pos ht];rfl
 · rw [if_neg hd];rfl
theorem qYG.esc {l:List UInt8} {k:Nat} {t:List UInt8} (h:qYG l k t) (hk:k+1 < l.length) (hc:l[k]=92) (hd:l[k+1]=34∨l[k+1]=92) (ht:t.length≠60):qYG l (k+2) (t++[l[k+1]]):=by
 obtain ⟨h1,h2,h3⟩:=h;refine ⟨by omega,by simp;omega,?_⟩;rw [h3,List.drop_eq_getElem_cons (by omega),hc,List.drop_eq_getElem_cons hk,zQm,if_pos hd,if_neg ht,List.length_append];simp only [List.length_cons,List.length_nil,Nat.zero_add];cases txtF (l.drop (k+1+1)) (t.length+1) with
 | none=>rfl
 | some p=>simp;omega
theorem qYG.plainFull {l:List UInt8} {k:Nat} {t:List UInt8} (h:qYG l k t) (hk:k < l.length) (hc:l[k]≠34) (hc2:l[k]≠92) (ht:t.length=60):txtF (l.drop 1) 0=none:=by
 rw [h.2.2,List.drop_eq_getElem_cons hk,kQi hc hc2,if_pos ht];rfl
theorem qYG.plain {l:List UInt8} {k:Nat} {t:List UInt8} (h:qYG l k t) (hk:k < l.length) (hc:l[k]≠34) (hc2:l[k]≠92) (ht:t.length≠60):qYG l (k+1) (t++[l[k]]):=by
 obtain ⟨h1,h2,h3⟩:=h;refine ⟨by omega,by simp;omega,?_⟩;rw [h3,List.drop_eq_getElem_cons hk,kQi hc hc2,if_neg ht,List.length_append];simp only [List.length_cons,List.length_nil,Nat.zero_add];cases txtF (l.drop (k+1)) (t.length+1) with
 | none=>rfl
 | some p=>simp;omega
end Tryst
namespace Tryst
open Go Go.Lib
def Zq (l:List UInt8) (i:Nat):Bool:=match l[i]? with | some c=>Jx c | none=>false
theorem jJW {l:List UInt8} {i:Nat} (h:Zq l i=true):∃ h:i < l.length,Jx l[i]=true:=by
 unfold Zq at h
 by_cases hi:i < l.length
 · rw [List.getElem?_eq_getElem hi] at h;exact ⟨hi,h⟩
 · rw [List.getElem?_eq_none (by omega)] at h;cases h
def jQB (most:Nat) (l:List UInt8) (i0 i n:Nat):Prop:=
 i0<=i/\i<=l.length/\n<=most/\(scan most 0 (l.drop i0)).1=(scan most n (l.drop i)).1/\(scan most 0 (l.drop i0)).2=(scan most n (l.drop i)).2+(i - i0)
theorem jQB.start (most:Nat) (l:List UInt8) (i0:Nat) (h:i0<=l.length):jQB most l i0 i0 0:=⟨Nat.le_refl _,h,by omega,rfl,by omega⟩
theorem jQB.done {most:Nat} {l:List UInt8} {i0 i n:Nat} (h:jQB most l i0 i n) (hd:Zq l i=false):scan most 0 (l.drop i0)=(n,i - i0):=by
 obtain ⟨_,h2,_,h4,h5⟩:=h
 have e:scan most n (l.drop i)=(n,0):=by
  by_cases hi:i < l.length
  · rw [List.drop_eq_getElem_cons hi,scan,if_neg];unfold Zq at hd;rw [List.getElem?_eq_getElem hi] at hd;simp at hd;simp [hd]
  · rw [List.drop_eq_nil_of_le (by omega),scan]
 rw [e] at h4 h5;exact Prod.ext h4 (by rw [h5];simp)
theorem jQB.over {most:Nat} {l:List UInt8} {i0 i n:Nat} (h:jQB most l i0 i n) (hi:i < l.length) (ho:(most - (l[i].toNat - 48)) / 10 < n):scan most 0 (l.drop i0)=(n,i - i0):=by
 obtain ⟨_,h2,_,h4,h5⟩:=h
 have e:scan most n (l.drop i)=(n,0):=by
  rw [List.drop_eq_getElem_cons hi,scan,if_neg (fun h=>h.2 ho)]
 rw [e] at h4 h5;exact Prod.ext h4 (by rw [h5];simp)
theorem jQB.step {most:Nat} {l:List UInt8} {i0 i n:Nat} (hm:10<=most) (h:jQB most l i0 i n) (hi:i < l.length) (hd:Jx l[i]=true) (ho:¬ (most - (l[i].toNat - 48)) / 10 < n) :
  jQB most l i0 (i+1) (n*10+(l[i].toNat - 48)):=by
 obtain ⟨h1,h2,h3,h4,h5⟩:=h;have hd':=hd;simp only [Jx,Bool.and_eq_true,decide_eq_true_eq] at hd'
 have e:scan most n (l.drop i)=((scan most (n*10+(l[i].toNat - 48)) (l.drop (i+1))).1,(scan most (n*10+(l[i].toNat - 48)) (l.drop (i+1))).2+1):=by
  rw [List.drop_eq_getElem_cons hi,scan,if_pos ⟨hd,ho⟩]
 rw [e] at h4 h5;exact ⟨by omega,by omega,by omega,h4,by rw [h5];simp only;omega⟩
end Tryst
namespace Tryst
open Go Go.Lib
theorem zY2:∀ (a b:List UInt8),compareBytes a b=0↔a=b
 | [],[]=>by simp [compareBytes]
 | [],_ :: _=>by simp [compareBytes]
 | _ :: _,[]=>by simp [compareBytes]
 | a :: aq,b :: bs=>by
  have ih:=zY2 aq bs;unfold compareBytes
  by_cases h1:a < b
  ·
   have:a≠b:=fun e=>by subst e;simp only [UInt8.lt_iff_toNat_lt] at h1;omega
   simp [h1,this]
  ·
   by_cases h2:b < a
   ·
    have:a≠b:=fun e=>by subst e;simp only [UInt8.lt_iff_toNat_lt] at h2;omega
    simp [h1,h2,this]
   · have:a=b:=UInt8.toNat.inj (by simp only [UInt8.lt_iff_toNat_lt] at *;omega);simp [h1,h2,this,ih]
theorem kYy (a b:List UInt8):compareBytes a b=-1∨compareBytes a b=0∨compareBytes a b=1:=by
 induction a generalizing b with
 | nil=>cases b<;>simp [compareBytes]
 | cons a aq ih=>
  cases b with
  | nil=>simp [compareBytes]
  | cons b bs=>
   unfold compareBytes
   split
   · simp
   ·
    split
    · simp
    · exact ih bs
theorem zY7:∀ (a b:List UInt8),Op.bytesLess a b=decide (compareBytes a b < 0)
 | [],[]=>rfl
 | [],_ :: _=>rfl
 | _ :: _,[]=>rfl
 | a :: aq,b :: bs=>by
  have ih:=zY7 aq bs;unfold compareBytes Op.bytesLess
  by_cases h1:a < b
  · simp [h1]
  ·
   by_cases h2:b < a
   ·
    have:a≠b:=fun e=>by subst e;simp only [UInt8.lt_iff_toNat_lt] at h2;omega
    simp [h1,h2,this]
   · have:a=b:=UInt8.toNat.inj (by simp only [UInt8.lt_iff_toNat_lt] at *;omega);subst this;simp [h1,ih]
def V.order (a b:V):Int:=
 if a.num then (if b.num then (if a.n < b.n then -1 else if b.n < a.n then 1 else 0) else -1)
 else if b.num then 1 else compareBytes a.s b.s
end Tryst
namespace Tryst
open Go
def jQg (l:List UInt8) (k:Nat) (x:Int):Prop:=
 (k<=9->∃ m:Nat,x=m/\m < 2 ^ (7*k)/\unp l=unpF (10 - k) k m (l.drop k))/\(k=10->unp l=(0,0,2))
theorem jQg.start (l:List UInt8):jQg l 0 0:=⟨fun _=>⟨0,rfl,by decide,rfl⟩,fun h=>by omega⟩
theorem jYt (c:Nat) (h:c < 256):bits BinOp.and IntKind.u8 (c:Int) 127=((c % 128:Nat):Int):=by
 have:=u8_and_nat c 127 h (by decide);rw [nat_mask7] at this;exact this
theorem vJ1 (m k c:Nat) (hm:m < 2 ^ (7*k)) (hk:k<=9) (hc:c < 256) (h9:k=9->c % 128 < 2) :
  bits BinOp.or IntKind.u64 (m:Int) (IntKind.u64.wrap (IntKind.u64.wrap (bits BinOp.and IntKind.u8 (c:Int) 127)*2 ^ (7*k)))=((m+c % 128*2 ^ (7*k):Nat):Int):=by
 rw [jYt c hc];have hp:0 < 2 ^ (7*k):=Nat.pow_pos (by decide)
 have hlt:c % 128*2 ^ (7*k)+2 ^ (7*k)<=18446744073709551616:=by
  by_cases h:k=9
  · subst h;have:=h9 rfl;omega
  ·
   calc c % 128*2 ^ (7*k)+2 ^ (7*k)=(c % 128+1)*2 ^ (7*k):=by rw [Nat.add_mul];omega
    _<=2 ^ 7*2 ^ (7*k):=Nat.mul_le_mul_right _ (by omega)
    _=2 ^ (7+7*k):=by rw [Nat.pow_add]
    _<=2 ^ 64:=Nat.pow_le_pow_right (by decide) (by omega)
 have e1:IntKind.u64.wrap ((c % 128:Nat):Int)=((c % 128:Nat):Int):=by rw [IntKind.wrap_u64];omega
 rw [e1]
 have e2:IntKind.u64.wrap (((c % 128:Nat):Int)*2 ^ (7*k))=((c % 128*2 ^ (7*k):Nat):Int):=by
  rw [IntKind.wrap_u64];have:(((c % 128:Nat):Int)*2 ^ (7*k))=((c % 128*2 ^ (7*k):Nat):Int):=by simp
  rw [this];exact Int.emod_eq_of_lt (by omega) (by omega)
 rw [e2,bits_or_u64_nat _ _ (by omega) (by omega),Nat.or_comm,nat_join (7*k) _ _ (Nat.mul_mod_left _ _) hm,Nat.add_comm]
theorem jQg.step {l:List UInt8} {k:Nat} {x:Int} (h:jQg l k x) (hk:k<=9) (hl:k < l.length) (hc:128<=l[k].toNat) :
  jQg l (k+1) (bits BinOp.or IntKind.u64 x (IntKind.u64.wrap (IntKind.u64.wrap (bits BinOp.and IntKind.u8 (l[k].toNat:Int) 127)*2 ^ (7*k)))):=by
 obtain ⟨m,rfl,hm,hu⟩:=h.1 hk;rw [List.drop_eq_getElem_cons hl] at hu;obtain ⟨f,hf⟩:∃ f,10 - k=f+1:=⟨9 - k,by omega⟩;rw [hf] at hu;unfold unpF at hu;rw [if_pos hc] at hu;have hcl:=l[k].toNat_lt;refine ⟨fun h9=>?_,fun h10=>?_⟩
 ·
  rw [vJ1 m k _ hm hk hcl (by omega)];refine ⟨_,rfl,?_,?_⟩
  ·
   have hpow:2 ^ (7*(k+1))=128*2 ^ (7*k):=by rw [Nat.mul_add,Nat.pow_add];omega
   have:l[k].toNat % 128*2 ^ (7*k)<=127*2 ^ (7*k):=Nat.mul_le_mul_right _ (by omega);omega
  · rw [hu];congr 1;omega
 ·
  have:f=0:=by omega
  subst this;rw [hu];rfl
theorem jQg.bad {l:List UInt8} {k:Nat} {x:Int} (h:jQg l k x) (hk:k<=9) (hl:k < l.length) (hc:l[k].toNat < 128) (hz:(l[k].toNat=0/\0 < k)∨(k=9/\1 < l[k].toNat)):unp l=(0,0,2):=by
 obtain ⟨m,rfl,hm,hu⟩:=h.1 hk;rw [List.drop_eq_getElem_cons hl] at hu;obtain ⟨f,hf⟩:∃ f,10 - k=f+1:=⟨9 - k,by omega⟩;rw [hf] at hu;unfold unpF at hu;rw [if_neg (by omega),if_pos hz] at hu;exact hu
theorem jQg.done {l:List UInt8} {k:Nat} {x:Int} (h:jQg l k x) (hk:k<=9) (hl:k < l.length) (hc:l[k].toNat < 128) (hz:¬ ((l[k].toNat=0/\0 < k)∨(k=9/\1 < l[k].toNat))) :
  ∃ n:Nat,bits BinOp.or IntKind.u64 x (IntKind.u64.wrap (IntKind.u64.wrap (bits BinOp.and IntKind.u8 (l[k].toNat:Int) 127)*2 ^ (7*k)))=n/\unp l=(n,k+1,0):=by
 obtain ⟨m,rfl,hm,hu⟩:=h.1 hk;rw [List.drop_eq_getElem_cons hl] at hu;obtain ⟨f,hf⟩:∃ f,10 - k=f+1:=⟨9 - k,by omega⟩;rw [hf] at hu;unfold unpF at hu;rw [if_neg (by omega),if_neg hz] at hu;exact ⟨_,vJ1 m k _ hm hk (by omega) (fun _=>by omega),hu⟩
theorem jQg.short {l:List UInt8} {k:Nat} {x:Int} (h:jQg l k x) (hk:k=l.length) (h9:k<=9):unp l=(0,0,3):=by
 obtain ⟨m,rfl,hm,hu⟩:=h.1 h9;obtain ⟨f,hf⟩:∃ f,10 - k=f+1:=⟨9 - k,by omega⟩;rw [hk,List.drop_length,<- hk,hf] at hu;exact hu
def jQm (n:Nat) (pre:List UInt8) (m:Nat):Prop:=pre.length<=9/\m < 2 ^ (64 - 7*pre.length)/\pack n=pre++jQY (9 - pre.length) m
theorem jQm.start (n:Nat) (h:n < 2 ^ 64):jQm n [] n:=⟨by simp,by simpa using h,rfl⟩
theorem jQm.step {n:Nat} {pre:List UInt8} {m:Nat} (h:jQm n pre m) (hm:128<=m):pre.length<=8/\jQm n (pre++[UInt8.ofNat (128+m % 128)]) (m / 128):=by
 obtain ⟨h1,h2,h3⟩:=h
 have h9:pre.length<=8:=by
  by_cases h:pre.length=9
  · rw [h] at h2;simp at h2;omega
  · omega
 refine ⟨h9,by simp;omega,?_,?_⟩
 ·
  rw [Nat.div_lt_iff_lt_mul (by decide)]
  have:2 ^ (64 - 7*(pre++[UInt8.ofNat (128+m % 128)]).length)*128=2 ^ (64 - 7*pre.length):=by
   rw [show (128:Nat)=2 ^ 7 from rfl,<- Nat.pow_add];congr 1;simp;omega
  omega
 ·
  obtain ⟨j,hj⟩:∃ j,9 - pre.length=j+1:=⟨8 - pre.length,by omega⟩;have e:9 - (pre++[UInt8.ofNat (128+m % 128)]).length=j:=by simp;omega
  rw [e,h3,hj,List.append_assoc,List.singleton_append]
  congr 1
  rw [jQY,if_neg (by omega)]
theorem jQm.done {n:Nat} {pre:List UInt8} {m:Nat} (h:jQm n pre m) (hm:m < 128):pack n=pre++[UInt8.ofNat m]:=by
 obtain ⟨h1,h2,h3⟩:=h;rw [h3];cases 9 - pre.length with
 | zero=>rfl
 | succ j=>unfold jQY;rw [if_pos hm]
set_option maxRecDepth 100000 in
theorem kJv:∀ x:Fin 256,x.val||| 128=128+x.val % 128:=by decide
theorem or128 (m:Nat):bits BinOp.or IntKind.u8 ((m:Int) % 256) 128=((UInt8.ofNat (128+m % 128)).toNat:Int):=by
 have h1:(m:Int) % 256=((m % 256:Nat):Int):=by omega
 have h2:=u8_or_nat (m % 256) 128 (by omega) (by decide);rw [kJv ⟨m % 256,by omega⟩] at h2;rw [h1];refine h2.trans ?_;simp;omega
theorem wrap8 (m:Nat) (h:m < 128):((m:Nat):Int)=((UInt8.ofNat m).toNat:Int):=by simp;omega
def hor:List UInt8->Nat
 | []=>0
 | c :: l=>c.toNat % 128+128*hor l
theorem xQC:∀ (l:List UInt8),hor l < 128 ^ l.length
 | []=>by simp [hor]
 | c :: l=>by
  have:=xQC l;have h:c.toNat % 128 < 128:=Nat.mod_lt _ (by decide);simp only [hor,List.length_cons,Nat.pow_succ];omega
theorem jJG (k:Nat):∀ (i m:Nat) (l:List UInt8) (hk:k < l.length),i+k<=9->(∀ j (h:j < l.length),j < k->128<=l[j].toNat)->l[k].toNat < 128->
  unpF (10 - i) i m l=if (l[k].toNat=0/\0 < i+k)∨(i+k=9/\1 < l[k].toNat) then (0,0,2) else (m+hor (l.take (k+1))*2 ^ (7*i),i+k+1,0):=by
 induction k with
 | zero=>
  intro i m l hk hi _ hc;cases l with
  | nil=>simp at hk
  | cons c l=>
   obtain ⟨f,hf⟩:∃ f,10 - i=f+1:=⟨9 - i,by omega⟩;simp only [List.getElem_cons_zero] at hc;simp only [hf,unpF,List.getElem_cons_zero,Nat.add_zero];rw [if_neg (by omega)];simp [hor]
 | succ k ih=>
  intro i m l hk hi hall hc;cases l with
  | nil=>simp at hk
  | cons c l=>
   obtain ⟨f,hf⟩:∃ f,10 - i=f+1:=⟨9 - i,by omega⟩;have h0:=hall 0 (by simp) (by omega);simp only [List.getElem_cons_zero] at h0;simp only [List.getElem_cons_succ] at hc;simp only [hf,unpF,List.getElem_cons_succ];rw [if_pos h0,show f=10 - (i+1) by omega,ih (i+1) _ l (by simpa using hk) (by omega) (fun j h hj=>by have h7:=hall (j+1) (by simpa using h) (by omega);rwa [List.getElem_cons_succ] at h7) hc];have e1:i+1+k=i+(k+1):=by omega
   rw [e1]
   congr 1
   have e3:2 ^ (7*(i+1))=128*2 ^ (7*i):=by rw [Nat.mul_add,Nat.pow_add];omega
   simp only [List.take_succ_cons,hor]
   congr 1
   rw [e3,Nat.add_mul,<- Nat.mul_assoc,Nat.mul_comm 128 (hor _)];omega
def Lead (l:List UInt8) (k:Nat):Prop:=k<=10/\k<=l.length/\∀ j (h:j < l.length),j < k->128<=l[j].toNat
theorem Lead.start (l:List UInt8):Lead l 0:=⟨by omega,by omega,fun j h hj=>by omega⟩
theorem Lead.step {l:List UInt8} {k:Nat} (h:Lead l k) (hk:k < 10) (hl:k < l.length) (hc:128<=l[k].toNat):Lead l (k+1):=
 ⟨by omega,by omega,fun j h' hj=>by
  by_cases e:j=k
  · subst e;exact hc
  · exact h.2.2 j h' (by omega)⟩
theorem kJj (k:Nat):∀ (i m:Nat) (l:List UInt8),i+k<=10->k<=l.length->(∀ j (h:j < l.length),j < k->128<=l[j].toNat)->∃ m',unpF (10 - i) i m l=unpF (10 - (i+k)) (i+k) m' (l.drop k):=by
 induction k with
 | zero=>intro i m l _ _ _;exact ⟨m,by simp⟩
 | succ k ih=>
  intro i m l hi hk hall;cases l with
  | nil=>simp at hk
  | cons c l=>
   obtain ⟨f,hf⟩:∃ f,10 - i=f+1:=⟨9 - i,by omega⟩;have h0:=hall 0 (by simp) (by omega);simp only [List.getElem_cons_zero] at h0;obtain ⟨m',hm'⟩:=ih (i+1) (m+(c.toNat % 128)*2 ^ (7*i)) l (by omega) (by simpa using hk) (fun j h hj=>by have h7:=hall (j+1) (by simpa using h) (by omega);rwa [List.getElem_cons_succ] at h7);refine ⟨m',?_⟩;simp only [hf,unpF,List.drop_succ_cons];rw [if_pos h0,show f=10 - (i+1) by omega,hm',show i+1+k=i+(k+1) by omega]
theorem Lead.ten {l:List UInt8} {k:Nat} (h:Lead l k) (hk:10<=k):unp l=(0,0,2):=by
 obtain rfl:k=10:=by have:=h.1;omega
 obtain ⟨m',hm'⟩:=kJj 10 0 0 l (by omega) h.2.1 h.2.2;exact hm'
theorem Lead.short {l:List UInt8} {k:Nat} (h:Lead l k) (hk:k < 10) (hl:k=l.length):unp l=(0,0,3):=by
 obtain ⟨m',hm'⟩:=kJj k 0 0 l (by omega) h.2.1 h.2.2;have:unp l=_:=hm';rw [this,hl,List.drop_length,<- hl];obtain ⟨f,hf⟩:∃ f,10 - (0+k)=f+1:=⟨9 - k,by omega⟩;rw [hf];rfl
theorem Lead.nine {l:List UInt8} {k:Nat} (h:Lead l k) (hk:k=9) (hl:k < l.length) (hc:l[k].toNat < 128) (h1:1 < l[k].toNat):unp l=(0,0,2):=by
 have:=jJG k 0 0 l hl (by omega) h.2.2 hc;rw [if_pos (Or.inr ⟨by omega,h1⟩)] at this;exact this
theorem Lead.val_lt {l:List UInt8} {k:Nat} (h:Lead l k) (hk:k<=9) (hl:k < l.length) (h9:k=9->l[k].toNat<=1):∀ j,hor ((l.take (k+1)).drop j) < 2 ^ 64:=by
 intro j
 by_cases hk9:k=9
 ·
  subst hk9;show hor ((l.take 10).drop j) < 2 ^ 64;have e:l.take 10=l.take 9++[l[9]]:=List.take_succ_eq_append_getElem hl
  by_cases hj:j<=9
  ·
   have e2:(l.take 10).drop j=(l.take 9).drop j++[l[9]]:=by rw [e,List.drop_append_of_le_length (by simp;omega)]
   have app:∀ (x:List UInt8) (c:UInt8),hor (x++[c])=hor x+c.toNat % 128*128 ^ x.length:=by
    intro x c
    induction x with
    | nil=>simp [hor]
    | cons y x ih=>simp only [List.cons_append,hor,ih,List.length_cons,Nat.pow_succ];rw [Nat.mul_add,Nat.mul_comm (128 ^ x.length) 128,<- Nat.mul_assoc 128,<- Nat.mul_assoc (c.toNat % 128),Nat.mul_comm 128 (c.toNat % 128)];omega
   rw [e2,app];have h1:=xQC ((l.take 9).drop j);have h2:128 ^ ((l.take 9).drop j).length<=128 ^ 9:=Nat.pow_le_pow_right (by decide) (by simp;omega);have h3:l[9].toNat % 128*128 ^ ((l.take 9).drop j).length<=1*128 ^ 9:=Nat.mul_le_mul (by have:=h9 rfl;omega) h2;have h4:(128:Nat) ^ 9=2 ^ 63:=by decide
   omega
  · have h1:=xQC ((l.take 10).drop j);have h2:128 ^ ((l.take 10).drop j).length<=128 ^ 1:=Nat.pow_le_pow_right (by decide) (by simp;omega);omega
 ·
  have h1:=xQC ((l.take (k+1)).drop j);have h2:128 ^ ((l.take (k+1)).drop j).length<=128 ^ 9:=Nat.pow_le_pow_right (by decide) (by simp;omega);have h4:(128:Nat) ^ 9=2 ^ 63:=by decide
  omega
theorem vY9 {l:List UInt8} {k j:Nat} (hl:k < l.length) (hj:j<=k):hor ((l.take (k+1)).drop j)=128*hor ((l.take (k+1)).drop (j+1))+(l[j]'(by omega)).toNat % 128:=by
 rw [List.drop_eq_getElem_cons (by simp;omega)];simp only [hor,List.getElem_take];omega
theorem Lead.done {l:List UInt8} {k:Nat} (h:Lead l k) (hk:k<=9) (hl:k < l.length) (hc:l[k].toNat < 128) (h9:k=9->l[k].toNat<=1) :
  unp l=if pack (hor (l.take (k+1)))=l.take (k+1) then (hor (l.take (k+1)),k+1,0) else (0,0,2):=by
 have e:=jJG k 0 0 l hl (by omega) h.2.2 hc;have hlt:=h.val_lt hk hl h9 0;rw [List.drop_zero] at hlt;simp only [Nat.zero_add,Nat.mul_zero,Nat.pow_zero,Nat.mul_one] at e;have e':unp l=_:=e
 by_cases hz:(l[k].toNat=0/\0 < k)∨(k=9/\1 < l[k].toNat)
 · rw [if_pos hz] at e';rw [e',if_neg];intro hp;have h1:=kQt _ hlt [];rw [List.append_nil,hp] at h1;have h2:=jJG k 0 0 (l.take (k+1)) (by simp;omega) (by omega) (fun j hj hjk=>by simpa using h.2.2 j (by omega) hjk) (by simpa using hc);simp only [List.getElem_take,Nat.zero_add] at h2;rw [if_pos hz] at h2;have h3:unp (l.take (k+1))=(0,0,2):=h2;rw [h3] at h1;simp at h1
 · rw [if_neg hz] at e';rw [e',if_pos];exact (qQf e').2.2.2.2.symm
open Go.Lib
def qQE (c:UInt8):Bool:=(97<=c.toNat&&c.toNat<=122)||(48<=c.toNat&&c.toNat<=57)||c.toNat==95
def Z1 (s:List UInt8):Bool:=!s.isEmpty&&s.all qQE
def dots:List UInt8->List (List UInt8)
 | []=>[[]]
 | c :: l=>if c=46 then [] :: dots l else match dots l with | []=>[[c]] | p :: ps=>(c :: p) :: ps
theorem qQZ (c:UInt8) (l:List UInt8):dots (c :: l)=if c=46 then [] :: dots l else match dots l with | []=>[[c]] | p :: ps=>(c :: p) :: ps:=rfl
theorem kJ8 (l:List UInt8):dots l≠[]:=by
 cases l with
 | nil=>simp [dots]
 | cons c l=>rw [qQZ];split<;>(try split)<;>simp
theorem vQf (l:List UInt8) (h:46 ∉ l):dots l=[l]:=by
 induction l with
 | nil=>rfl
 | cons c l ih=>
  have h1:c≠46:=fun e=>h (by simp [e])
  rw [qQZ,if_neg h1,ih (fun e=>h (by simp [e]))]
theorem jJa (p r:List UInt8) (h:46 ∉ p):dots (p++46 :: r)=p :: dots r:=by
 induction p with
 | nil=>rw [List.nil_append,qQZ,if_pos rfl]
 | cons c p ih=>
  have h1:c≠46:=fun e=>h (by simp [e])
  rw [List.cons_append,qQZ,if_neg h1,ih (fun e=>h (by simp [e]))]
def Yx (s:List UInt8):Bool:=decide (s.length<=40)&&decide ((dots s).length<=8)&&(dots s).all Z1
def Q5 (s:List UInt8):Bool:=decide (s.length<=16)&&!s.contains 46&&Yx s
def allF (k:Nat) (s:List UInt8):Bool:=decide ((dots s).length<=k)&&(dots s).all Z1
theorem kJG {k:Nat} {s:List UInt8} (h:46 ∉ s):allF (k+1) s=Z1 s:=by
 unfold allF;rw [vQf s h];simp
theorem vJg {k:Nat} {p r:List UInt8} (h:46 ∉ p):allF (k+1) (p++46 :: r)=(Z1 p&&allF k r):=by
 unfold allF;rw [jJa p r h];simp only [List.length_cons,List.all_cons,Nat.add_le_add_iff_right];cases Z1 p<;>simp
theorem kJN (s:List UInt8):allF 0 s=false:=by
 unfold allF;have:=List.length_pos_iff.2 (kJ8 s);rw [decide_eq_false (by omega)];rfl
theorem kJM (s:List UInt8):Yx s=(decide (s.length<=40)&&allF 8 s):=by
 unfold Yx allF;rw [Bool.and_assoc]
structure Fld where
 name:List UInt8
 v:V
structure Ev where
 topic:List UInt8
 prod:List UInt8
 seq:Nat
 l:List Fld
theorem Fld.ext' {a b:Fld} (h1:a.name=b.name) (h2:a.v=b.v):a=b:=by cases a;cases b;simp_all
theorem Ev.ext' {a b:Ev} (h1:a.topic=b.topic) (h2:a.prod=b.prod) (h3:a.seq=b.seq) (h4:a.l=b.l):a=b:=by cases a;cases b;simp_all
def vMay (v:V):Bool:=decide v.May
def okF:Option (List UInt8)->List Fld->Bool
 | _,[]=>true
 | p,f :: r=>Q5 f.name&&vMay f.v&&(match p with | none=>true | some q=>Op.bytesLess q f.name)&&okF (some f.name) r
def Ev.may (e:Ev):Bool:=Yx e.topic&&Q5 e.prod&&decide (1<=e.seq)&&decide (e.l.length<=8)&&okF none e.l
def hasF (l:List Fld) (n:List UInt8):Bool:=l.any (fun f=>f.name=n)
def setF:List Fld->List UInt8->V->List Fld
 | [],_,_=>[]
 | f :: r,n,v=>if f.name=n then ⟨n,v⟩ :: r else f :: setF r n v
def insF:List Fld->List UInt8->V->List Fld
 | [],n,v=>[⟨n,v⟩]
 | f :: r,n,v=>if Op.bytesLess n f.name=true then ⟨n,v⟩ :: f :: r else f :: insF r n v
def putF (l:List Fld) (n:List UInt8) (v:V):List Fld:=if hasF l n=true then setF l n v else insF l n v
def Ev.put (e:Ev) (n:List UInt8) (v:V):Ev:={ e with l:=putF e.l n v }
theorem jJR (f:Fld) (r:List Fld) (n:List UInt8) (v:V):setF (f :: r) n v=if f.name=n then ⟨n,v⟩ :: r else f :: setF r n v:=rfl
theorem set_set (l:List Fld) (n:List UInt8) (v w:V):setF (setF l n w) n v=setF l n v:=by
 induction l with
 | nil=>rfl
 | cons f l ih=>
  by_cases e:f.name=n
  · simp [jJR,e]
  · simp [jJR,e,ih]
end Tryst
namespace Tryst
open Go Go.Lib
def jQM (s:List UInt8):List UInt8:=pack s.length++s
def Fld.lay (f:Fld):List UInt8:=jQM f.name++f.v.lay
def layF:List Fld->List UInt8
 | []=>[]
 | f :: l=>f.lay++layF l
def Ev.lay (e:Ev):List UInt8:=jQM e.topic++(jQM e.prod++(pack e.seq++(pack e.l.length++layF e.l)))
def Ev.Fits (e:Ev):Prop:=e.seq < 2 ^ 64/\∀ f∈e.l,f.v.Fits
def Ev.zero:Ev:=⟨[],[],0,[]⟩
def rnum (l:List UInt8) (most:Nat) (st:Nat × Nat):Nat × (Nat × Nat):=
 if st.2≠0 then (0,st)
 else if (unp (l.drop st.1)).2.2≠0 then (0,(st.1,(unp (l.drop st.1)).2.2))
 else if most < (unp (l.drop st.1)).1 then (0,(st.1,2))
 else ((unp (l.drop st.1)).1,(st.1+(unp (l.drop st.1)).2.1,0))
def jQJ (l:List UInt8) (most:Nat) (st:Nat × Nat):List UInt8 × (Nat × Nat):=
 if (rnum l most st).2.2≠0 then ([],(rnum l most st).2)
 else if l.length - (rnum l most st).2.1 < (rnum l most st).1 then ([],((rnum l most st).2.1,3))
 else ((l.drop (rnum l most st).2.1).take (rnum l most st).1,((rnum l most st).2.1+(rnum l most st).1,0))
def rval (l:List UInt8) (st:Nat × Nat):V × (Nat × Nat):=
 if st.2≠0 then (V.zero,st) else ((Jp (l.drop st.1)).1,(st.1+(Jp (l.drop st.1)).2.1,(Jp (l.drop st.1)).2.2))
def rfld (l:List UInt8) (st:Nat × Nat):Fld × (Nat × Nat):=
 (⟨(jQJ l 16 st).1,(rval l (jQJ l 16 st).2).1⟩,(rval l (jQJ l 16 st).2).2)
def jQy (l:List UInt8):Nat->Nat × Nat->List Fld × (Nat × Nat)
 | 0,st=>([],st)
 | n+1,st=>((rfld l st).1 :: (jQy l n (rfld l st).2).1,(jQy l n (rfld l st).2).2)
def rE1 (l:List UInt8):List UInt8 × (Nat × Nat):=jQJ l 40 (0,0)
def rE2 (l:List UInt8):List UInt8 × (Nat × Nat):=jQJ l 16 (rE1 l).2
def rE3 (l:List UInt8):Nat × (Nat × Nat):=rnum l 18446744073709551615 (rE2 l).2
def rE4 (l:List UInt8):Nat × (Nat × Nat):=rnum l 8 (rE3 l).2
def rE5 (l:List UInt8):List Fld × (Nat × Nat):=jQy l (rE4 l).1 (rE4 l).2
def rE (l:List UInt8):Ev:=⟨(rE1 l).1,(rE2 l).1,(rE3 l).1,(rE5 l).1⟩
def qQB (l:List UInt8):Ev × Nat × Nat:=
 if (rE5 l).2.2≠0 then (Ev.zero,0,(rE5 l).2.2)
 else if 800 < (rE5 l).2.1∨(rE l).may=false then (Ev.zero,0,2)
 else (rE l,(rE5 l).2.1,0)
theorem kJd (l:List UInt8) (most a e:Nat) (h:e≠0):rnum l most (a,e)=(0,(a,e)):=by unfold rnum;rw [if_pos h]
theorem Zz {s:List UInt8} (h:Q5 s=true):s.length<=16:=by
 unfold Q5 at h;simp at h;exact h.1.1
theorem Jf (n:Nat):(pack n).length<=10:=(jQp 9 n).2
theorem jQZ (n:Nat):1<=(pack n).length:=(jQp 9 n).1
end Tryst
namespace Tryst
open Go Go.Lib
theorem kJP (l:List UInt8):(46 ∉ l/\Lib.index l [46]=-1)∨(∃ p r,l=p++46 :: r/\46 ∉ p/\Lib.index l [46]=p.length):=by
 induction l with
 | nil=>exact .inl ⟨by simp,rfl⟩
 | cons b l ih=>
  by_cases hb:b=46
  · subst hb;refine .inr ⟨[],l,rfl,by simp,?_⟩;unfold Lib.index;simp
  ·
   have h1:([46]:List UInt8).isPrefixOf (b :: l)=false:=by
    simp [List.isPrefixOf];exact fun h=>hb h.symm
   rcases ih with ⟨h,e⟩ | ⟨p,r,e1,e2,e3⟩
   · refine .inl ⟨by simp;exact ⟨fun h=>hb h.symm,h⟩,?_⟩;unfold Lib.index;rw [h1,e];rfl
   ·
    refine .inr ⟨b :: p,r,by rw [e1];rfl,by simp;exact ⟨fun h=>hb h.symm,e2⟩,?_⟩;unfold Lib.index;rw [h1,e3];have:((p.length:Int)==-1)=false:=by simp
    rw [this];simp
theorem xJS (l:List UInt8):(46 ∉ l/\Lib.cut l [46]=(l,[],false))∨(∃ p r,l=p++46 :: r/\46 ∉ p/\Lib.cut l [46]=(p,r,true)):=by
 rcases kJP l with ⟨h,e⟩ | ⟨p,r,e1,e2,e3⟩
 · refine .inl ⟨h,?_⟩;unfold Lib.cut;rw [e];rfl
 · refine .inr ⟨p,r,e1,e2,?_⟩;unfold Lib.cut;rw [e3,if_pos (by omega)];subst e1;simp
theorem zJE (l:List UInt8):decide (0<=Lib.indexByte l 46)=l.contains 46:=by
 have h:(46 ∉ l/\Lib.indexByte l 46=-1)∨(46∈l/\0<=Lib.indexByte l 46):=by
  induction l with
  | nil=>exact .inl ⟨by simp,rfl⟩
  | cons b l ih=>
   by_cases hb:b=46
   · subst hb;exact .inr ⟨by simp,by unfold Lib.indexByte;simp⟩
   ·
    have h1:(b==46)=false:=by simpa using hb
    rcases ih with ⟨h,e⟩ | ⟨h,e⟩
    · refine .inl ⟨by simp;exact ⟨fun h=>hb h.symm,h⟩,?_⟩;unfold Lib.indexByte;rw [h1,e];rfl
    ·
     refine .inr ⟨by simp [h],?_⟩;unfold Lib.indexByte;rw [h1];have:(Lib.indexByte l 46==-1)=false:=by simp;omega
     rw [this];simp;omega
 rcases h with ⟨h,e⟩ | ⟨h,e⟩
 · rw [e];simp [h]
 · rw [decide_eq_true e];simp [h]
end Tryst
namespace Tryst
open Go Go.Lib Go.RowKit
theorem kQf:∀ (k u:Nat),u < 10 ^ (k+1)->nDigits u<=k+1
 | 0,u,h=>by unfold nDigits;rw [dif_pos (by omega)];omega
 | k+1,u,h=>by
  unfold nDigits
  split
  · omega
  · have:=kQf k (u / 10) (by rw [Nat.pow_succ] at h;omega);omega
theorem zJ0 {z:Int} (h:In64 z):(itoa z).length<=20:=by
 obtain ⟨h0,h1⟩:=h;unfold itoa
 split
 · rw [List.length_cons,decDigits_length];have:=kQf 18 z.natAbs (by omega);omega
 · rw [decDigits_length];have:=kQf 18 z.toNat (by omega);omega
theorem jQa.head {l:List UInt8} {k:Nat} {z:Int} (h:jQa l k z):(z < 0->l.head?=some 45)/\(0<=z->l.head?≠some 45):=by
 obtain ⟨h1,h2,_,h4⟩:=h;cases l with
 | nil=>simp at h2;omega
 | cons c r=>
  obtain ⟨k,rfl⟩:∃ i,k=i+1:=⟨k - 1,by omega⟩;rw [List.take_succ_cons] at h4
  constructor
  · intro hz;unfold itoa at h4;rw [if_pos hz] at h4;rw [List.head?_cons,(List.cons.inj h4).1]
  · intro hz hc;simp at hc;unfold itoa at h4;rw [if_neg (by omega),hc] at h4;have:=Zx z.toNat 45 (by rw [<- h4];simp);simp [Jx] at this
theorem jQa.len {l:List UInt8} {k:Nat} {z:Int} (h:jQa l k z):k<=20/\k<=l.length/\1<=k:=by
 have h20:=zJ0 h.2.2.1;have:=congrArg List.length h.2.2.2;rw [List.length_take] at this;have:=h.2.1;exact ⟨by omega,h.2.1,h.1⟩
