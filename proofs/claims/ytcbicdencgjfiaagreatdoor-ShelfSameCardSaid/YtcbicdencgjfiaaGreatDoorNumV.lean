import Derived.Deep.RegionWith
import Derived.Test.YtcbicdencgjfiaaGreatDoorDraws
import Derived.Test.YtcbicdencgjfiaaGreatDoorFacts
import Derived.Test.YtcbicdencgjfiaaGreatDoorShelf
set_option linter.all false
set_option maxHeartbeats 400000
set_option maxRecDepth 20000
namespace Go.Proofs.YtcbicdencgjfiaaGreatDoor
open Go.RowKit Tryst
theorem kJt (c k:Nat):(128<=c)∨(c < 128/\((c:Int)==0)=true/\0 < k/\Hid ((c=0/\0 < k)∨(k=9/\1 < c)))∨
  (c < 128/\((c:Int)==0)=false/\((k:Int)==9)=true/\1 < c/\Hid ((c=0/\0 < k)∨(k=9/\1 < c)))∨
  (c < 128/\((c:Int)==0)=true/\k<=0/\((k:Int)==9)=false/\Hid (¬ ((c=0/\0 < k)∨(k=9/\1 < c))))∨
  (c < 128/\((c:Int)==0)=false/\((k:Int)==9)=false/\Hid (¬ ((c=0/\0 < k)∨(k=9/\1 < c))))∨
  (c < 128/\((c:Int)==0)=false/\((k:Int)==9)=true/\c<=1/\Hid (¬ ((c=0/\0 < k)∨(k=9/\1 < c)))):=by
 simp only [beq_iff_eq,beq_eq_false_iff_ne,ne_eq,Hid];omega
theorem zQ4 (s:ByteArray) (hs:s.size<=1000000000) (w:World) :
  Calls Tryz.prog 168 #[.string s] w fun e w'=>e=.returned (.tuple #[.int .u64 (unp s.data.toList).1,.int .i64 (unp s.data.toList).2.1,.int .i64 (unp s.data.toList).2.2])/\w=w':=by
 go_enter Tryz.func168,Tryz.ntmps168
 by_cases hm:s.size<=10
 all_goals
  go_wp2
  go_loop [5,11] (fun n i=>∃ (k:Nat) (x:Int),k<=s.size/\k<=10/\i=.int .i64 k/\n=.int .u64 x/\jQg s.data.toList k x) (fun _ i=>s.size - (intOf i).toNat)
  case atStart=>exact ⟨0,0,by omega,by omega,rfl,rfl,.start _⟩
  case round=>
   obtain ⟨k,x,hk,hk10,rfl,rfl,hu⟩:=hrel
   by_cases hlt:k < s.size/\k < 10
   ·
    obtain ⟨hlt,hlt10⟩:=hlt;obtain ⟨c,hc⟩:∃ c,s[k].toNat=c:=⟨_,rfl⟩;have hcl:c < 256:=hc ▸ s[k].toNat_lt;have A1:=Zh (hu.step (by omega) (by simpa using hlt));have A2:=Zh (hu.bad (by omega) (by simpa using hlt));have A3:=Zh (hu.done (by omega) (by simpa using hlt));have e:s.data.toList[k]'(by simpa using hlt)=s[k]:=rfl;rw [e,hc] at A1 A2 A3;clear e hu
    rcases kJt c k with h | ⟨h,h0,h1,H⟩ | ⟨h,h0,h1,h2,H⟩ | ⟨h,h0,h1,h2,H⟩ | ⟨h,h0,h1,H⟩ | ⟨h,h0,h1,h2,H⟩
    ·
     go_wp2
     go_round
     case rel=>exact ⟨k+1,_,by omega,by omega,by go_num,rfl,A1.out h⟩
     case measure=>simp [intOf];omega
    · go_wp2;go_ret3;exact ⟨Yw (by rw [A2.out h H.out];rfl),rfl⟩
    · go_wp2;go_ret3;exact ⟨Yw (by rw [A2.out h H.out];rfl),rfl⟩
    all_goals
     obtain ⟨n,hn,hr⟩:=A3.out h H.out;have hn':=Zh hn;have hr':=Zh hr;clear hn hr A3 A1 A2;go_wp2;go_ret3;refine ⟨Yw ?_,rfl⟩;rw [hr'.out];have:=hn'.out
     first | (rw [this];rfl) | (simp at this ⊢;simp [this])
   ·
    by_cases h10:k < 10
    ·
     have hz:unp s.data.toList=(0,0,3):=hu.short (by simp;omega) (by omega);have HZ:=Zh hz;clear hz;go_wp2
     all_goals (go_ret3;exact ⟨Yw (by rw [HZ.out];rfl),rfl⟩)
    ·
     have hz:unp s.data.toList=(0,0,2):=hu.2 (by omega);have HZ:=Zh hz;clear hz;go_wp2
     all_goals (go_ret3;exact ⟨Yw (by rw [HZ.out];rfl),rfl⟩)
theorem u8T:SliceOf Tryz.prog 77 5 1 1:=.mk' Tryz.underlying77 (z:=.int .u8 0) (by kernel_rfl) rfl (by decide) (by decide)
theorem jYR (w:World):(Instr.makeSlice 77 (.int .i64 0) (.int .i64 10)).run Tryz.prog w=.ok (.slice (some ⟨w.heap.size,0,none⟩) 0 10) (w.alloc (.cells (Array.replicate 10 (.int .u8 0)) 5)):=by kernel_rfl
theorem jYV (n:Nat) (hn:n<=18446744073709551615) (w:World) :
  Calls Tryz.prog 164 #[.int .u64 n] w fun e w'=>e=.returned (.string ⟨(pack n).toArray⟩)/\Below w.heap.size w w':=by
 have hmk:=jYR;go_enter Tryz.func164,Tryz.ntmps164;go_wp2;clear hmk;have hst:=jQm.start n (by omega);go_loopw [0,3] (fun m v wr=>∃ (q:Nat) (pre:List UInt8),m=.int .u64 q/\q<=18446744073709551615/\jQm n pre q/\wr.ownsRow w.heap.size 5 1 v pre.length (pre.map qQI)/\Below w.heap.size w wr) (fun m _ _=>(intOf m).toNat)
 case atStart=>exact ⟨n,[],rfl,hn,hst,World.ownsRow_made _ _ _ (Nat.le_refl _) (by decide) rfl,(Below.refl _ _).alloc (Nat.le_refl _) _⟩
 case round=>
  obtain ⟨q,pre,rfl,hq,hr,hown,hb⟩:=hrel;have hB:=hb.size;have HR:=Zh hr;have hlen:pre.length<=9:=hr.1;clear hr hst
  by_cases h:128<=q
  ·
   have hs:=HR.out.step h;have HS:=Zh hs;have e:=or128 q;have E:=Zh e;clear hs e;go_wp2_with (at_builtin;refine Xw u8T rfl _ _ rfl w.heap.size _ _ _ rfl hown _ _ rfl rfl (by omega) hB ?_;intro v1 w1 hown1 hb1);go_roundw
   case rel=>
    rw [E.out] at hown1;exact ⟨q / 128,_,by go_num,by omega,HS.out.2,by simpa [qQI] using hown1,hb.trans hb1⟩
   case measure=>simp [intOf];omega
  · have hd:=Zh (HR.out.done (by omega));have hw8:=Zh (wrap8 q (by omega));go_wp2_with (at_builtin;refine Xw u8T rfl _ _ rfl w.heap.size _ _ _ rfl hown _ _ rfl rfl (by omega) hB ?_;intro v1 w1 hown1 hb1;have hcv:=kQj (P:=Tryz.prog) (l:=pre++[UInt8.ofNat q]) 77 9 Tryz.underlying77 Tryz.underlying5 Tryz.underlying9 (by rw [hw8.out] at hown1;simpa [qQI] using hown1));go_ret;exact ⟨jY4 hd.out.symm,hb.trans hb1⟩
theorem cv1:∀ (w:World) (g c:Nat),(qQC (w.cell? ⟨g,0,none⟩)).isSome=true->(convert 77 9 (.slice (some ⟨g,0,none⟩) 1 c)).run Tryz.prog w=.ok (.string ⟨[UInt8.ofNat ((qQC (w.cell? ⟨g,0,none⟩)).getD 0).toNat].toArray⟩) w:=conv1 Tryz.prog 77 5 9 Tryz.underlying77 Tryz.underlying5 Tryz.underlying9
theorem zQM (n:Int) (w:World) (h0:0<=n) (h1:n<=18446744073709551615) :
  Calls Tryz.prog 164 #[.int .u64 n] w fun e w'=>e=.returned (.string ⟨(pack n.toNat).toArray⟩)/\Below w.heap.size w w':=by
 obtain ⟨m,rfl⟩:=Int.eq_ofNat_of_zero_le h0;exact jYV m (by omega) w
theorem zJb (n:Int) (h0:-9223372036854775808<=n) (h1:n<=9223372036854775807) (w:World) :
  Calls Tryz.prog 138 #[.int .i64 n] w fun e w'=>e=.returned (.int .u64 (fold n:Nat))/\w=w':=by
 go_enter Tryz.func138,Tryz.ntmps138
 by_cases h:0<=n
 all_goals
  go_wp2;go_ret;exact ⟨Yw (congrArg (Value.int .u64) (by unfold fold;first | (rw [if_pos (by omega)];omega) | (rw [if_neg (by omega)];omega))),rfl⟩
theorem and1 (n:Int) (h0:0<=n) (h1:n<=18446744073709551615):bits BinOp.and IntKind.u64 n 1=n % 2:=by
 have:=u64_and n 1 h0 (by omega) (by decide) (by decide);rw [this,show (1:Int).toNat=1 from rfl,nat_mask1];omega
theorem xQq (n:Int) (h0:0<=n) (h1:n<=18446744073709551615) (w:World) :
  Calls Tryz.prog 154 #[.int .u64 n] w fun e w'=>e=.returned (.int .i64 (Kw n.toNat))/\w=w':=by
 have ha:=and1 n h0 h1;go_enter Tryz.func154,Tryz.ntmps154
 by_cases h:n % 2=0
 ·
  have hb:(n % 2==0)=true:=by simpa using h
  have H:=Zh h;clear h;go_wp2;go_ret;have:=H.out;exact ⟨Yw (congrArg (Value.int .i64) (by unfold Kw;rw [if_pos (by omega)];omega)),rfl⟩
 ·
  have hb:(n % 2==0)=false:=by simpa using h
  have H:=Zh h;clear h;go_wp2;go_ret;have:=H.out;exact ⟨Yw (congrArg (Value.int .i64) (by unfold Kw;rw [if_neg (by omega)];omega)),rfl⟩
def V.mayB (v:V):Bool:=decide v.May
theorem zJK (n:Int) (l:List UInt8):V.mayB ⟨true,n,l⟩=l.isEmpty:=by
 unfold V.mayB V.May;cases l<;>simp
theorem xQ1 (n:Int) (l:List UInt8):V.mayB ⟨false,n,l⟩=(decide (n=0)&&decide (l.length<=60)):=by
 unfold V.mayB V.May;simp
theorem qQS (num:Bool) (n:Int) (s:ByteArray) (hs:s.size<=1000000000) (w:World) :
  Calls Tryz.prog 217 #[.agg #[.bool num,.int .i64 n,.string s]] w fun e w'=>e=.returned (.bool (V.mayB ⟨num,n,s.data.toList⟩))/\Below w.heap.size w w':=by
 cases num with
 | true=>
  go_enter Tryz.func217,Tryz.ntmps217;go_wp2;go_ret;exact ⟨Qq (by rw [zJK,<- Qp]),Qj _ (.refl _ _)⟩
 | false=>
  by_cases h:n=0
  · subst h;go_enter Tryz.func217,Tryz.ntmps217;go_wp2;go_ret;exact ⟨Qq (by rw [xQ1,Qx];simp;omega),Qj _ (.refl _ _)⟩
  ·
   have hb:(n==0)=false:=by simpa using h
   have H:=Zh h;clear h;go_enter Tryz.func217,Tryz.ntmps217;go_wp2;go_ret;exact ⟨Qq (by rw [xQ1];have:=H.out;simp [this]),Qj _ (.refl _ _)⟩
theorem xJv (x y:Bool) (n m:Int) (s t:ByteArray) (w:World) :
  Calls Tryz.prog 228 #[.agg #[.bool x,.int .i64 n,.string s],.agg #[.bool y,.int .i64 m,.string t]] w fun e w'=>
   e=.returned (.int .i64 (V.order ⟨x,n,s.data.toList⟩ ⟨y,m,t.data.toList⟩))/\Below w.heap.size w w':=by
 cases x<;>cases y
 all_goals
  go_enter Tryz.func228,Tryz.ntmps228;go_wp2_with (first | (go_at_call 239;refine (Tryz.strings_Compare _ _ _).mono ?_;rintro e w1 ⟨rfl,rfl⟩) | go_in)
 all_goals go_ret
 all_goals refine ⟨Qy ?_,by repeat (first | exact Below.refl _ _ | refine Y0 ?_ | refine Qj _ ?_)⟩
 all_goals simp [V.order, *]
 all_goals omega
theorem jQt {s:ByteArray} (hs:s.size<=1000000000) {n k:Nat} (h:unp s.data.toList=(n,k,0)) (w:World) :
  Calls Tryz.prog 168 #[.string s] w fun e w'=>e=.returned (.tuple #[.int .u64 n,.int .i64 k,.int .i64 0])/\w=w':=by
 have:=zQ4 s hs w;rw [h] at this;exact this
theorem kQH {s:ByteArray} (hs:s.size<=1000000000) (h:unp s.data.toList=(0,0,2)) (w:World) :
  Calls Tryz.prog 168 #[.string s] w fun e w'=>e=.returned (.tuple #[.int .u64 0,.int .i64 0,.int .i64 2])/\w=w':=by
 have:=zQ4 s hs w;rw [h] at this;exact this
theorem qQj {s:ByteArray} (hs:s.size<=1000000000) (h:unp s.data.toList=(0,0,3)) (w:World) :
  Calls Tryz.prog 168 #[.string s] w fun e w'=>e=.returned (.tuple #[.int .u64 0,.int .i64 0,.int .i64 3])/\w=w':=by
 have:=zQ4 s hs w;rw [h] at this;exact this
theorem kQD {x y:Int} (h:(x==y)=false):(x != y)=true:=by rw [bne,h];rfl
theorem qQq {x y:Int} (h:(x==y)=true):(x != y)=false:=by rw [bne,h];rfl
theorem jJA (s:ByteArray) (h1:1<=s.size):∃ c:Nat,c < 256/\s[0].toNat=c/\
  (((((c:Int)==1)=false/\((c:Int)==2)=false)/\Hid (Jp s.data.toList=(V.zero,0,2)))∨
  ((((c:Int)==1)=true∨(((c:Int)==1)=false/\((c:Int)==2)=true))/\Hid (unp (s.extract 1 s.size).data.toList=(0,0,2))/\Hid (Jp s.data.toList=(V.zero,0,2)))∨
  ((((c:Int)==1)=true∨(((c:Int)==1)=false/\((c:Int)==2)=true))/\Hid (unp (s.extract 1 s.size).data.toList=(0,0,3))/\Hid (Jp s.data.toList=(V.zero,0,3)))∨
  (∃ n k:Nat,n<=18446744073709551615/\k<=10/\k+1<=s.size/\((c:Int)==1)=true/\Hid (unp (s.extract 1 s.size).data.toList=(n,k,0))/\Hid (Jp s.data.toList=(⟨true,Kw n,[]⟩,k+1,0)))∨
  (∃ n k:Nat,n<=18446744073709551615/\k<=10/\k+1<=s.size/\((c:Int)==1)=false/\((c:Int)==2)=true/\60 < n/\Hid (unp (s.extract 1 s.size).data.toList=(n,k,0))/\Hid (Jp s.data.toList=(V.zero,0,2)))∨
  (∃ n k:Nat,n<=60/\k<=10/\k+1<=s.size/\((c:Int)==1)=false/\((c:Int)==2)=true/\s.size < k+1+n/\Hid (unp (s.extract 1 s.size).data.toList=(n,k,0))/\Hid (Jp s.data.toList=(V.zero,0,3)))∨
  (∃ n k:Nat,n<=60/\k<=10/\k+1<=s.size/\((c:Int)==1)=false/\((c:Int)==2)=true/\k+1+n<=s.size/\Hid (unp (s.extract 1 s.size).data.toList=(n,k,0))/\Hid (Jp s.data.toList=(⟨false,0,(s.extract (k+1) (k+1+n)).data.toList⟩,k+1+n,0)))):=by
 have hlen:0 < s.data.toList.length:=by simp;omega
 obtain ⟨r,hr⟩:∃ r,s.data.toList=s[0] :: r:=⟨_,by rw [<- List.drop_zero (l:=s.data.toList),List.drop_eq_getElem_cons hlen];rfl⟩
 have hx:(s.extract 1 s.size).data.toList=r:=by
  rw [zQ7,<- Qx,List.take_length,hr];rfl
 have hsz:s.size=r.length+1:=by rw [<- Qx,hr];rfl
 have c1:∀ d:Nat,d < 256->((s[0].toNat=d)↔s[0]=UInt8.ofNat d):=fun d hd=>by
  constructor
  · intro h;apply UInt8.toNat.inj;rw [h];simp;omega
  · intro h;rw [h];simp;omega
 refine ⟨s[0].toNat,s[0].toNat_lt,rfl,?_⟩;rw [hx]
 have T:Jp (s[0] :: r)=if s[0]≠1/\s[0]≠2 then (V.zero,0,2)
   else if (unp r).2.2≠0 then (V.zero,0,(unp r).2.2)
   else if s[0]=1 then (⟨true,Kw (unp r).1,[]⟩,(unp r).2.1+1,0)
   else if 60 < (unp r).1 then (V.zero,0,2)
   else if (s[0] :: r).length < (unp r).2.1+1+(unp r).1 then (V.zero,0,3)
   else (⟨false,0,((s[0] :: r).take ((unp r).2.1+1+(unp r).1)).drop ((unp r).2.1+1)⟩,(unp r).2.1+1+(unp r).1,0):=rfl
 rw [<- hr] at T;have b11:((s[0].toNat:Int)==1)=decide (s[0].toNat=1):=by rw [Bool.eq_iff_iff];simp;omega
 have b12:((s[0].toNat:Int)==2)=decide (s[0].toNat=2):=by rw [Bool.eq_iff_iff];simp;omega
 rw [b11,b12]
 by_cases h1':s[0]=1
 ·
  have e1:s[0].toNat=1:=by rw [h1'];rfl
  rw [e1];rw [if_neg (by simp [h1'])] at T
  rcases kQs r with hu | hu | hu
  ·
   have hu':unp r=((unp r).1,(unp r).2.1,0):=by rw [<- hu]
   rw [if_neg (by omega),if_pos h1'] at T;obtain ⟨g1,g2,g3,g4,g5⟩:=qQf hu';exact .inr (.inr (.inr (.inl ⟨_,_,by omega,g4,by omega,by decide,hu',T⟩)))
  · rw [hu,if_pos (by simp)] at T;exact .inr (.inl ⟨.inl (by decide),hu,T⟩)
  · rw [hu,if_pos (by simp)] at T;exact .inr (.inr (.inl ⟨.inl (by decide),hu,T⟩))
 ·
  by_cases h2':s[0]=2
  ·
   have e2:s[0].toNat=2:=by rw [h2'];rfl
   rw [e2];rw [if_neg (by simp [h2'])] at T
   rcases kQs r with hu | hu | hu
   ·
    have hu':unp r=((unp r).1,(unp r).2.1,0):=by rw [<- hu]
    rw [if_neg (by omega),if_neg h1'] at T;obtain ⟨g1,g2,g3,g4,g5⟩:=qQf hu'
    by_cases h60:60 < (unp r).1
    · rw [if_pos h60] at T;exact .inr (.inr (.inr (.inr (.inl ⟨_,_,by omega,g4,by omega,by decide,by decide,h60,hu',T⟩))))
    ·
     rw [if_neg h60,Qx] at T
     by_cases hl:s.size < (unp r).2.1+1+(unp r).1
     · rw [if_pos hl] at T;exact .inr (.inr (.inr (.inr (.inr (.inl ⟨_,_,by omega,g4,by omega,by decide,by decide,hl,hu',T⟩)))))
     · rw [if_neg hl,<- zQ7] at T;exact .inr (.inr (.inr (.inr (.inr (.inr ⟨_,_,by omega,g4,by omega,by decide,by decide,by omega,hu',T⟩)))))
   · rw [hu,if_pos (by simp)] at T;exact .inr (.inl ⟨.inr ⟨by decide,by decide⟩,hu,T⟩)
   · rw [hu,if_pos (by simp)] at T;exact .inr (.inr (.inl ⟨.inr ⟨by decide,by decide⟩,hu,T⟩))
  ·
   rw [if_pos ⟨h1',h2'⟩] at T;refine .inl ⟨⟨?_,?_⟩,T⟩
   · rw [decide_eq_false_iff_not,c1 1 (by decide)];exact h1'
   · rw [decide_eq_false_iff_not,c1 2 (by decide)];exact h2'
theorem zJt (s:ByteArray) (hs:s.size<=1000000000) (w:World) :
  Calls Tryz.prog 216 #[.string s] w fun e w'=>e=.returned (.tuple #[.agg #[.bool (Jp s.data.toList).1.num,.int .i64 (Jp s.data.toList).1.n,.string ⟨(Jp s.data.toList).1.s.toArray⟩],.int .i64 (Jp s.data.toList).2.1,.int .i64 (Jp s.data.toList).2.2])/\Below w.heap.size w w':=by
 by_cases h0:s.size=0
 ·
  have hz:s.toList.isEmpty=true:=by rw [Qp,List.isEmpty_iff,qQ6];exact h0
  have hl:s.data.toList=[]:=(qQ6 s).2 h0;rw [hl];clear h0 hl;go_enter Tryz.func216,Tryz.ntmps216;go_wp2_with fail;exact bodyPost_ret (v:=.tuple #[.agg #[.bool false,.int .i64 0,.string ⟨#[]⟩],.int .i64 0,.int .i64 3]) (by simp [results,Tryz.results216,go_sem]) rfl ⟨rfl,Qj _ (.refl _ _)⟩
 ·
  have hz:s.toList.isEmpty=false:=by
   rw [Qp,Bool.eq_false_iff,ne_eq,List.isEmpty_iff,qQ6];exact h0
  have h1:1<=s.size:=by omega
  have hx:(s.extract 1 s.size).size<=1000000000:=by simp;omega
  clear h0;obtain ⟨c,hc8,hc,hways⟩:=jJA s h1
  rcases hways with ⟨⟨b1,b2⟩,T⟩ | ⟨b1 | ⟨b1,b2⟩,U,T⟩ | ⟨b1 | ⟨b1,b2⟩,U,T⟩ | ⟨n,k,g1,g2,g3,b1,U,T⟩ | ⟨n,k,g1,g2,g3,b1,b2,g4,U,T⟩ | ⟨n,k,g1,g2,g3,b1,b2,g4,U,T⟩ | ⟨n,k,g1,g2,g3,b1,b2,g4,U,T⟩
  · have n1:=kQD b1;have n2:=kQD b2;go_enter Tryz.func216,Tryz.ntmps216;go_wp2_with fail;rw [T.out];exact bodyPost_ret (v:=.tuple #[.agg #[.bool false,.int .i64 0,.string ⟨#[]⟩],.int .i64 0,.int .i64 2]) (by simp [results,Tryz.results216,go_sem]) rfl ⟨rfl,Qj _ (.refl _ _)⟩
  · have n1:=qQq b1;go_enter Tryz.func216,Tryz.ntmps216;go_wp2_with (go_at_call 168;refine (kQH hx U.out _).mono ?_;rintro e w1 ⟨rfl,rfl⟩);rw [T.out];exact bodyPost_ret (v:=.tuple #[.agg #[.bool false,.int .i64 0,.string ⟨#[]⟩],.int .i64 0,.int .i64 2]) (by simp [results,Tryz.results216,go_sem]) rfl ⟨rfl,Qj _ (.refl _ _)⟩
  · have n1:=kQD b1;have n2:=qQq b2;go_enter Tryz.func216,Tryz.ntmps216;go_wp2_with (go_at_call 168;refine (kQH hx U.out _).mono ?_;rintro e w1 ⟨rfl,rfl⟩);rw [T.out];exact bodyPost_ret (v:=.tuple #[.agg #[.bool false,.int .i64 0,.string ⟨#[]⟩],.int .i64 0,.int .i64 2]) (by simp [results,Tryz.results216,go_sem]) rfl ⟨rfl,Qj _ (.refl _ _)⟩
  · have n1:=qQq b1;go_enter Tryz.func216,Tryz.ntmps216;go_wp2_with (go_at_call 168;refine (qQj hx U.out _).mono ?_;rintro e w1 ⟨rfl,rfl⟩);rw [T.out];exact bodyPost_ret (v:=.tuple #[.agg #[.bool false,.int .i64 0,.string ⟨#[]⟩],.int .i64 0,.int .i64 3]) (by simp [results,Tryz.results216,go_sem]) rfl ⟨rfl,Qj _ (.refl _ _)⟩
  · have n1:=kQD b1;have n2:=qQq b2;go_enter Tryz.func216,Tryz.ntmps216;go_wp2_with (go_at_call 168;refine (qQj hx U.out _).mono ?_;rintro e w1 ⟨rfl,rfl⟩);rw [T.out];exact bodyPost_ret (v:=.tuple #[.agg #[.bool false,.int .i64 0,.string ⟨#[]⟩],.int .i64 0,.int .i64 3]) (by simp [results,Tryz.results216,go_sem]) rfl ⟨rfl,Qj _ (.refl _ _)⟩
  · have n1:=qQq b1;go_enter Tryz.func216,Tryz.ntmps216;go_wp2_with (first | (go_at_call 168;refine (jQt hx U.out _).mono ?_;rintro e w1 ⟨rfl,rfl⟩) | (go_at_call 154;refine (xQq _ (by omega) (by omega) _).mono ?_;rintro e w1 ⟨rfl,rfl⟩));rw [T.out];exact bodyPost_ret (v:=.tuple #[.agg #[.bool true,.int .i64 (Kw n),.string ⟨#[]⟩],.int .i64 ((k:Int)+1),.int .i64 0]) (by simp [results,Tryz.results216,go_sem]) rfl ⟨rfl,Qj _ (.refl _ _)⟩
  · have n1:=kQD b1;have n2:=qQq b2;go_enter Tryz.func216,Tryz.ntmps216;go_wp2_with (go_at_call 168;refine (jQt hx U.out _).mono ?_;rintro e w1 ⟨rfl,rfl⟩);rw [T.out];exact bodyPost_ret (v:=.tuple #[.agg #[.bool false,.int .i64 0,.string ⟨#[]⟩],.int .i64 0,.int .i64 2]) (by simp [results,Tryz.results216,go_sem]) rfl ⟨rfl,Qj _ (.refl _ _)⟩
  · have n1:=kQD b1;have n2:=qQq b2;go_enter Tryz.func216,Tryz.ntmps216;go_wp2_with (go_at_call 168;refine (jQt hx U.out _).mono ?_;rintro e w1 ⟨rfl,rfl⟩);rw [T.out];exact bodyPost_ret (v:=.tuple #[.agg #[.bool false,.int .i64 0,.string ⟨#[]⟩],.int .i64 0,.int .i64 3]) (by simp [results,Tryz.results216,go_sem]) rfl ⟨rfl,Qj _ (.refl _ _)⟩
  · have n1:=kQD b1;have n2:=qQq b2;go_enter Tryz.func216,Tryz.ntmps216;go_wp2_with (go_at_call 168;refine (jQt hx U.out _).mono ?_;rintro e w1 ⟨rfl,rfl⟩);rw [T.out];exact bodyPost_ret (v:=.tuple #[.agg #[.bool false,.int .i64 0,.string (s.extract (k+1) (k+1+n))],.int .i64 ((k:Int)+1+n),.int .i64 0]) (by simp [results,Tryz.results216,go_sem]) rfl ⟨rfl,Qj _ (.refl _ _)⟩
