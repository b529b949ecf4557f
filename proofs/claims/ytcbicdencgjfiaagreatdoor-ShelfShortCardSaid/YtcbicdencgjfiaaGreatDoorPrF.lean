import Derived.Deep.RegionWith
import Derived.Lib.SplitLaws
import Derived.Test.YtcbicdencgjfiaaGreatDoorDraws
import Derived.Test.YtcbicdencgjfiaaGreatDoorFacts
import Derived.Test.YtcbicdencgjfiaaGreatDoorShelf
set_option linter.all false
set_option maxHeartbeats 400000
set_option maxRecDepth 20000
namespace Go.Proofs.YtcbicdencgjfiaaGreatDoor
open Go.RowKit Tryst
theorem kJt (c k:Nat):(128<=c)∨(c < 128/\((c:Int)==0)=true/\0 < k/\Hid ((c=0/\0 < k)∨(k=9/\1 < c)))∨
  (c < 128/\((c:Int)==0)=false/\((k:Int)==9)=true/\1 < c/\Hid ((c=0/\0 < k)∨(k=9/\1 < c)))∨
  (c < 128/\((c:Int)==0)=true/\k<=0/\((k:Int)==9)=false/\Hid (¬ ((c=0/\0 < k)∨(k=9/\1 < c))))∨
  (c < 128/\((c:Int)==0)=false/\((k:Int)==9)=false/\Hid (¬ ((c=0/\0 < k)∨(k=9/\1 < c))))∨
  (c < 128/\((c:Int)==0)=false/\((k:Int)==9)=true/\c<=1/\Hid (¬ ((c=0/\0 < k)∨(k=9/\1 < c)))):=by
 simp only [beq_iff_eq,beq_eq_false_iff_ne,ne_eq,Hid];omega
theorem zQ4 (s:ByteArray) (hs:s.size<=1000000000) (w:World) :
  Calls Tryz.prog 168 #[.string s] w fun e w'=>e=.returned (.tuple #[.int .u64 (unp s.data.toList).1,.int .i64 (unp s.data.toList).2.1,.int .i64 (unp s.data.toList).2.2])/\w=w':=by
 go_enter Tryz.func168,Tryz.ntmps168
 by_cases hm:s.size<=10
 all_goals
  go_wp2
  go_loop [5,11] (fun n i=>∃ (k:Nat) (x:Int),k<=s.size/\k<=10/\i=.int .i64 k/\n=.int .u64 x/\jQg s.data.toList k x) (fun _ i=>s.size - (intOf i).toNat)
  case atStart=>exact ⟨0,0,by omega,by omega,rfl,rfl,.start _⟩
  case round=>
   obtain ⟨k,x,hk,hk10,rfl,rfl,hu⟩:=hrel
   by_cases hlt:k < s.size/\k < 10
   ·
    obtain ⟨hlt,hlt10⟩:=hlt;obtain ⟨c,hc⟩:∃ c,s[k].toNat=c:=⟨_,rfl⟩;have hcl:c < 256:=hc ▸ s[k].toNat_lt;have A1:=Zh (hu.step (by omega) (by simpa using hlt));have A2:=Zh (hu.bad (by omega) (by simpa using hlt));have A3:=Zh (hu.done (by omega) (by simpa using hlt));have e:s.data.toList[k]'(by simpa using hlt)=s[k]:=rfl;rw [e,hc] at A1 A2 A3;clear e hu
    rcases kJt c k with h | ⟨h,h0,h1,H⟩ | ⟨h,h0,h1,h2,H⟩ | ⟨h,h0,h1,h2,H⟩ | ⟨h,h0,h1,H⟩ | ⟨h,h0,h1,h2,H⟩
    ·
     go_wp2
     go_round
     case rel=>exact ⟨k+1,_,by omega,by omega,by go_num,rfl,A1.out h⟩
     case measure=>simp [intOf];omega
    · go_wp2;go_ret3;exact ⟨Yw (by rw [A2.out h H.out];rfl),rfl⟩
    · go_wp2;go_ret3;exact ⟨Yw (by rw [A2.out h H.out];rfl),rfl⟩
    all_goals
     obtain ⟨n,hn,hr⟩:=A3.out h H.out;have hn':=Zh hn;have hr':=Zh hr;clear hn hr A3 A1 A2;go_wp2;go_ret3;refine ⟨Yw ?_,rfl⟩;rw [hr'.out];have:=hn'.out
     first | (rw [this];rfl) | (simp at this ⊢;simp [this])
   ·
    by_cases h10:k < 10
    ·
     have hz:unp s.data.toList=(0,0,3):=hu.short (by simp;omega) (by omega);have HZ:=Zh hz;clear hz;go_wp2
     all_goals (go_ret3;exact ⟨Yw (by rw [HZ.out];rfl),rfl⟩)
    ·
     have hz:unp s.data.toList=(0,0,2):=hu.2 (by omega);have HZ:=Zh hz;clear hz;go_wp2
     all_goals (go_ret3;exact ⟨Yw (by rw [HZ.out];rfl),rfl⟩)
theorem u8T:SliceOf Tryz.prog 77 5 1 1:=.mk' Tryz.underlying77 (z:=.int .u8 0) (by kernel_rfl) rfl (by decide) (by decide)
theorem jYR (w:World):(Instr.makeSlice 77 (.int .i64 0) (.int .i64 10)).run Tryz.prog w=.ok (.slice (some ⟨w.heap.size,0,none⟩) 0 10) (w.alloc (.cells (Array.replicate 10 (.int .u8 0)) 5)):=by kernel_rfl
theorem jYV (n:Nat) (hn:n<=18446744073709551615) (w:World) :
  Calls Tryz.prog 164 #[.int .u64 n] w fun e w'=>e=.returned (.string ⟨(pack n).toArray⟩)/\Below w.heap.size w w':=by
 have hmk:=jYR;go_enter Tryz.func164,Tryz.ntmps164;go_wp2;clear hmk;have hst:=jQm.start n (by omega);go_loopw [0,3] (fun m v wr=>∃ (q:Nat) (pre:List UInt8),m=.int .u64 q/\q<=18446744073709551615/\jQm n pre q/\wr.ownsRow w.heap.size 5 1 v pre.length (pre.map qQI)/\Below w.heap.size w wr) (fun m _ _=>(intOf m).toNat)
 case atStart=>exact ⟨n,[],rfl,hn,hst,World.ownsRow_made _ _ _ (Nat.le_refl _) (by decide) rfl,(Below.refl _ _).alloc (Nat.le_refl _) _⟩
 case round=>
  obtain ⟨q,pre,rfl,hq,hr,hown,hb⟩:=hrel;have hB:=hb.size;have HR:=Zh hr;have hlen:pre.length<=9:=hr.1;clear hr hst
  by_cases h:128<=q
  ·
   have hs:=HR.out.step h;have HS:=Zh hs;have e:=or128 q;have E:=Zh e;clear hs e;go_wp2_with (at_builtin;refine Xw u8T rfl _ _ rfl w.heap.size _ _ _ rfl hown _ _ rfl rfl (by omega) hB ?_;intro v1 w1 hown1 hb1);go_roundw
   case rel=>
    rw [E.out] at hown1;exact ⟨q / 128,_,by go_num,by omega,HS.out.2,by simpa [qQI] using hown1,hb.trans hb1⟩
   case measure=>simp [intOf];omega
  · have hd:=Zh (HR.out.done (by omega));have hw8:=Zh (wrap8 q (by omega));go_wp2_with (at_builtin;refine Xw u8T rfl _ _ rfl w.heap.size _ _ _ rfl hown _ _ rfl rfl (by omega) hB ?_;intro v1 w1 hown1 hb1;have hcv:=kQj (P:=Tryz.prog) (l:=pre++[UInt8.ofNat q]) 77 9 Tryz.underlying77 Tryz.underlying5 Tryz.underlying9 (by rw [hw8.out] at hown1;simpa [qQI] using hown1));go_ret;exact ⟨jY4 hd.out.symm,hb.trans hb1⟩
theorem cv1:∀ (w:World) (g c:Nat),(qQC (w.cell? ⟨g,0,none⟩)).isSome=true->(convert 77 9 (.slice (some ⟨g,0,none⟩) 1 c)).run Tryz.prog w=.ok (.string ⟨[UInt8.ofNat ((qQC (w.cell? ⟨g,0,none⟩)).getD 0).toNat].toArray⟩) w:=conv1 Tryz.prog 77 5 9 Tryz.underlying77 Tryz.underlying5 Tryz.underlying9
theorem zQM (n:Int) (w:World) (h0:0<=n) (h1:n<=18446744073709551615) :
  Calls Tryz.prog 164 #[.int .u64 n] w fun e w'=>e=.returned (.string ⟨(pack n.toNat).toArray⟩)/\Below w.heap.size w w':=by
 obtain ⟨m,rfl⟩:=Int.eq_ofNat_of_zero_le h0;exact jYV m (by omega) w
theorem zJb (n:Int) (h0:-9223372036854775808<=n) (h1:n<=9223372036854775807) (w:World) :
  Calls Tryz.prog 138 #[.int .i64 n] w fun e w'=>e=.returned (.int .u64 (fold n:Nat))/\w=w':=by
 go_enter Tryz.func138,Tryz.ntmps138
 by_cases h:0<=n
 all_goals
  go_wp2;go_ret;exact ⟨Yw (congrArg (Value.int .u64) (by unfold fold;first | (rw [if_pos (by omega)];omega) | (rw [if_neg (by omega)];omega))),rfl⟩
theorem and1 (n:Int) (h0:0<=n) (h1:n<=18446744073709551615):bits BinOp.and IntKind.u64 n 1=n % 2:=by
 have:=u64_and n 1 h0 (by omega) (by decide) (by decide);rw [this,show (1:Int).toNat=1 from rfl,nat_mask1];omega
theorem xQq (n:Int) (h0:0<=n) (h1:n<=18446744073709551615) (w:World) :
  Calls Tryz.prog 154 #[.int .u64 n] w fun e w'=>e=.returned (.int .i64 (Kw n.toNat))/\w=w':=by
 have ha:=and1 n h0 h1;go_enter Tryz.func154,Tryz.ntmps154
 by_cases h:n % 2=0
 ·
  have hb:(n % 2==0)=true:=by simpa using h
  have H:=Zh h;clear h;go_wp2;go_ret;have:=H.out;exact ⟨Yw (congrArg (Value.int .i64) (by unfold Kw;rw [if_pos (by omega)];omega)),rfl⟩
 ·
  have hb:(n % 2==0)=false:=by simpa using h
  have H:=Zh h;clear h;go_wp2;go_ret;have:=H.out;exact ⟨Yw (congrArg (Value.int .i64) (by unfold Kw;rw [if_neg (by omega)];omega)),rfl⟩
def V.mayB (v:V):Bool:=decide v.May
theorem zJK (n:Int) (l:List UInt8):V.mayB ⟨true,n,l⟩=l.isEmpty:=by
 unfold V.mayB V.May;cases l<;>simp
theorem xQ1 (n:Int) (l:List UInt8):V.mayB ⟨false,n,l⟩=(decide (n=0)&&decide (l.length<=60)):=by
 unfold V.mayB V.May;simp
theorem qQS (num:Bool) (n:Int) (s:ByteArray) (hs:s.size<=1000000000) (w:World) :
  Calls Tryz.prog 217 #[.agg #[.bool num,.int .i64 n,.string s]] w fun e w'=>e=.returned (.bool (V.mayB ⟨num,n,s.data.toList⟩))/\Below w.heap.size w w':=by
 cases num with
 | true=>
  go_enter Tryz.func217,Tryz.ntmps217;go_wp2;go_ret;exact ⟨Qq (by rw [zJK,<- Qp]),Qj _ (.refl _ _)⟩
 | false=>
  by_cases h:n=0
  · subst h;go_enter Tryz.func217,Tryz.ntmps217;go_wp2;go_ret;exact ⟨Qq (by rw [xQ1,Qx];simp;omega),Qj _ (.refl _ _)⟩
  ·
   have hb:(n==0)=false:=by simpa using h
   have H:=Zh h;clear h;go_enter Tryz.func217,Tryz.ntmps217;go_wp2;go_ret;exact ⟨Qq (by rw [xQ1];have:=H.out;simp [this]),Qj _ (.refl _ _)⟩
theorem xJv (x y:Bool) (n m:Int) (s t:ByteArray) (w:World) :
  Calls Tryz.prog 228 #[.agg #[.bool x,.int .i64 n,.string s],.agg #[.bool y,.int .i64 m,.string t]] w fun e w'=>
   e=.returned (.int .i64 (V.order ⟨x,n,s.data.toList⟩ ⟨y,m,t.data.toList⟩))/\Below w.heap.size w w':=by
 cases x<;>cases y
 all_goals
  go_enter Tryz.func228,Tryz.ntmps228;go_wp2_with (first | (go_at_call 239;refine (Tryz.strings_Compare _ _ _).mono ?_;rintro e w1 ⟨rfl,rfl⟩) | go_in)
 all_goals go_ret
 all_goals refine ⟨Qy ?_,by repeat (first | exact Below.refl _ _ | refine Y0 ?_ | refine Qj _ ?_)⟩
 all_goals simp [V.order, *]
 all_goals omega
theorem jQt {s:ByteArray} (hs:s.size<=1000000000) {n k:Nat} (h:unp s.data.toList=(n,k,0)) (w:World) :
  Calls Tryz.prog 168 #[.string s] w fun e w'=>e=.returned (.tuple #[.int .u64 n,.int .i64 k,.int .i64 0])/\w=w':=by
 have:=zQ4 s hs w;rw [h] at this;exact this
theorem kQH {s:ByteArray} (hs:s.size<=1000000000) (h:unp s.data.toList=(0,0,2)) (w:World) :
  Calls Tryz.prog 168 #[.string s] w fun e w'=>e=.returned (.tuple #[.int .u64 0,.int .i64 0,.int .i64 2])/\w=w':=by
 have:=zQ4 s hs w;rw [h] at this;exact this
theorem qQj {s:ByteArray} (hs:s.size<=1000000000) (h:unp s.data.toList=(0,0,3)) (w:World) :
  Calls Tryz.prog 168 #[.string s] w fun e w'=>e=.returned (.tuple #[.int .u64 0,.int .i64 0,.int .i64 3])/\w=w':=by
 have:=zQ4 s hs w;rw [h] at this;exact this
theorem kQD {x y:Int} (h:(x==y)=false):(x != y)=true:=by rw [bne,h];rfl
theorem qQq {x y:Int} (h:(x==y)=true):(x != y)=false:=by rw [bne,h];rfl
theorem jJA (s:ByteArray) (h1:1<=s.size):∃ c:Nat,c < 256/\s[0].toNat=c/\
  (((((c:Int)==1)=false/\((c:Int)==2)=false)/\Hid (Jp s.data.toList=(V.zero,0,2)))∨
  ((((c:Int)==1)=true∨(((c:Int)==1)=false/\((c:Int)==2)=true))/\Hid (unp (s.extract 1 s.size).data.toList=(0,0,2))/\Hid (Jp s.data.toList=(V.zero,0,2)))∨
  ((((c:Int)==1)=true∨(((c:Int)==1)=false/\((c:Int)==2)=true))/\Hid (unp (s.extract 1 s.size).data.toList=(0,0,3))/\Hid (Jp s.data.toList=(V.zero,0,3)))∨
  (∃ n k:Nat,n<=18446744073709551615/\k<=10/\k+1<=s.size/\((c:Int)==1)=true/\Hid (unp (s.extract 1 s.size).data.toList=(n,k,0))/\Hid (Jp s.data.toList=(⟨true,Kw n,[]⟩,k+1,0)))∨
  (∃ n k:Nat,n<=18446744073709551615/\k<=10/\k+1<=s.size/\((c:Int)==1)=false/\((c:Int)==2)=true/\60 < n/\Hid (unp (s.extract 1 s.size).data.toList=(n,k,0))/\Hid (Jp s.data.toList=(V.zero,0,2)))∨
  (∃ n k:Nat,n<=60/\k<=10/\k+1<=s.size/\((c:Int)==1)=false/\((c:Int)==2)=true/\s.size < k+1+n/\Hid (unp (s.extract 1 s.size).data.toList=(n,k,0))/\Hid (Jp s.data.toList=(V.zero,0,3)))∨
  (∃ n k:Nat,n<=60/\k<=10/\k+1<=s.size/\((c:Int)==1)=false/\((c:Int)==2)=true/\k+1+n<=s.size/\Hid (unp (s.extract 1 s.size).data.toList=(n,k,0))/\Hid (Jp s.data.toList=(⟨false,0,(s.extract (k+1) (k+1+n)).data.toList⟩,k+1+n,0)))):=by
 have hlen:0 < s.data.toList.length:=by simp;omega
 obtain ⟨r,hr⟩:∃ r,s.data.toList=s[0] :: r:=⟨_,by rw [<- List.drop_zero (l:=s.data.toList),List.drop_eq_getElem_cons hlen];rfl⟩
 have hx:(s.extract 1 s.size).data.toList=r:=by
  rw [zQ7,<- Qx,List.take_length,hr];rfl
 have hsz:s.size=r.length+1:=by rw [<- Qx,hr];rfl
 have c1:∀ d:Nat,d < 256->((s[0].toNat=d)↔s[0]=UInt8.ofNat d):=fun d hd=>by
  constructor
  · intro h;apply UInt8.toNat.inj;rw [h];simp;omega
  · intro h;rw [h];simp;omega
 refine ⟨s[0].toNat,s[0].toNat_lt,rfl,?_⟩;rw [hx]
 have T:Jp (s[0] :: r)=if s[0]≠1/\s[0]≠2 then (V.zero,0,2)
   else if (unp r).2.2≠0 then (V.zero,0,(unp r).2.2)
   else if s[0]=1 then (⟨true,Kw (unp r).1,[]⟩,(unp r).2.1+1,0)
   else if 60 < (unp r).1 then (V.zero,0,2)
   else if (s[0] :: r).length < (unp r).2.1+1+(unp r).1 then (V.zero,0,3)
   else (⟨false,0,((s[0] :: r).take ((unp r).2.1+1+(unp r).1)).drop ((unp r).2.1+1)⟩,(unp r).2.1+1+(unp r).1,0):=rfl
 rw [<- hr] at T;have b11:((s[0].toNat:Int)==1)=decide (s[0].toNat=1):=by rw [Bool.eq_iff_iff];simp;omega
 have b12:((s[0].toNat:Int)==2)=decide (s[0].toNat=2):=by rw [Bool.eq_iff_iff];simp;omega
 rw [b11,b12]
 by_cases h1':s[0]=1
 ·
  have e1:s[0].toNat=1:=by rw [h1'];rfl
  rw [e1];rw [if_neg (by simp [h1'])] at T
  rcases kQs r with hu | hu | hu
  ·
   have hu':unp r=((unp r).1,(unp r).2.1,0):=by rw [<- hu]
   rw [if_neg (by omega),if_pos h1'] at T;obtain ⟨g1,g2,g3,g4,g5⟩:=qQf hu';exact .inr (.inr (.inr (.inl ⟨_,_,by omega,g4,by omega,by decide,hu',T⟩)))
  · rw [hu,if_pos (by simp)] at T;exact .inr (.inl ⟨.inl (by decide),hu,T⟩)
  · rw [hu,if_pos (by simp)] at T;exact .inr (.inr (.inl ⟨.inl (by decide),hu,T⟩))
 ·
  by_cases h2':s[0]=2
  ·
   have e2:s[0].toNat=2:=by rw [h2'];rfl
   rw [e2];rw [if_neg (by simp [h2'])] at T
   rcases kQs r with hu | hu | hu
   ·
    have hu':unp r=((unp r).1,(unp r).2.1,0):=by rw [<- hu]
    rw [if_neg (by omega),if_neg h1'] at T;obtain ⟨g1,g2,g3,g4,g5⟩:=qQf hu'
    by_cases h60:60 < (unp r).1
    · rw [if_pos h60] at T;exact .inr (.inr (.inr (.inr (.inl ⟨_,_,by omega,g4,by omega,by decide,by decide,h60,hu',T⟩))))
    ·
     rw [if_neg h60,Qx] at T
     by_cases hl:s.size < (unp r).2.1+1+(unp r).1
     · rw [if_pos hl] at T;exact .inr (.inr (.inr (.inr (.inr (.inl ⟨_,_,by omega,g4,by omega,by decide,by decide,hl,hu',T⟩)))))
     · rw [if_neg hl,<- zQ7] at T;exact .inr (.inr (.inr (.inr (.inr (.inr ⟨_,_,by omega,g4,by omega,by decide,by decide,by omega,hu',T⟩)))))
   · rw [hu,if_pos (by simp)] at T;exact .inr (.inl ⟨.inr ⟨by decide,by decide⟩,hu,T⟩)
   · rw [hu,if_pos (by simp)] at T;exact .inr (.inr (.inl ⟨.inr ⟨by decide,by decide⟩,hu,T⟩))
  ·
   rw [if_pos ⟨h1',h2'⟩] at T;refine .inl ⟨⟨?_,?_⟩,T⟩
   · rw [decide_eq_false_iff_not,c1 1 (by decide)];exact h1'
   · rw [decide_eq_false_iff_not,c1 2 (by decide)];exact h2'
theorem zJt (s:ByteArray) (hs:s.size<=1000000000) (w:World) :
  Calls Tryz.prog 216 #[.string s] w fun e w'=>e=.returned (.tuple #[.agg #[.bool (Jp s.data.toList).1.num,.int .i64 (Jp s.data.toList).1.n,.string ⟨(Jp s.data.toList).1.s.toArray⟩],.int .i64 (Jp s.data.toList).2.1,.int .i64 (Jp s.data.toList).2.2])/\Below w.heap.size w w':=by
 by_cases h0:s.size=0
 ·
  have hz:s.toList.isEmpty=true:=by rw [Qp,List.isEmpty_iff,qQ6];exact h0
  have hl:s.data.toList=[]:=(qQ6 s).2 h0;rw [hl];clear h0 hl;go_enter Tryz.func216,Tryz.ntmps216;go_wp2_with fail;exact bodyPost_ret (v:=.tuple #[.agg #[.bool false,.int .i64 0,.string ⟨#[]⟩],.int .i64 0,.int .i64 3]) (by simp [results,Tryz.results216,go_sem]) rfl ⟨rfl,Qj _ (.refl _ _)⟩
 ·
  have hz:s.toList.isEmpty=false:=by
   rw [Qp,Bool.eq_false_iff,ne_eq,List.isEmpty_iff,qQ6];exact h0
  have h1:1<=s.size:=by omega
  have hx:(s.extract 1 s.size).size<=1000000000:=by simp;omega
  clear h0;obtain ⟨c,hc8,hc,hways⟩:=jJA s h1
  rcases hways with ⟨⟨b1,b2⟩,T⟩ | ⟨b1 | ⟨b1,b2⟩,U,T⟩ | ⟨b1 | ⟨b1,b2⟩,U,T⟩ | ⟨n,k,g1,g2,g3,b1,U,T⟩ | ⟨n,k,g1,g2,g3,b1,b2,g4,U,T⟩ | ⟨n,k,g1,g2,g3,b1,b2,g4,U,T⟩ | ⟨n,k,g1,g2,g3,b1,b2,g4,U,T⟩
  · have n1:=kQD b1;have n2:=kQD b2;go_enter Tryz.func216,Tryz.ntmps216;go_wp2_with fail;rw [T.out];exact bodyPost_ret (v:=.tuple #[.agg #[.bool false,.int .i64 0,.string ⟨#[]⟩],.int .i64 0,.int .i64 2]) (by simp [results,Tryz.results216,go_sem]) rfl ⟨rfl,Qj _ (.refl _ _)⟩
  · have n1:=qQq b1;go_enter Tryz.func216,Tryz.ntmps216;go_wp2_with (go_at_call 168;refine (kQH hx U.out _).mono ?_;rintro e w1 ⟨rfl,rfl⟩);rw [T.out];exact bodyPost_ret (v:=.tuple #[.agg #[.bool false,.int .i64 0,.string ⟨#[]⟩],.int .i64 0,.int .i64 2]) (by simp [results,Tryz.results216,go_sem]) rfl ⟨rfl,Qj _ (.refl _ _)⟩
  · have n1:=kQD b1;have n2:=qQq b2;go_enter Tryz.func216,Tryz.ntmps216;go_wp2_with (go_at_call 168;refine (kQH hx U.out _).mono ?_;rintro e w1 ⟨rfl,rfl⟩);rw [T.out];exact bodyPost_ret (v:=.tuple #[.agg #[.bool false,.int .i64 0,.string ⟨#[]⟩],.int .i64 0,.int .i64 2]) (by simp [results,Tryz.results216,go_sem]) rfl ⟨rfl,Qj _ (.refl _ _)⟩
  · have n1:=qQq b1;go_enter Tryz.func216,Tryz.ntmps216;go_wp2_with (go_at_call 168;refine (qQj hx U.out _).mono ?_;rintro e w1 ⟨rfl,rfl⟩);rw [T.out];exact bodyPost_ret (v:=.tuple #[.agg #[.bool false,.int .i64 0,.string ⟨#[]⟩],.int .i64 0,.int .i64 3]) (by simp [results,Tryz.results216,go_sem]) rfl ⟨rfl,Qj _ (.refl _ _)⟩
  · have n1:=kQD b1;have n2:=qQq b2;go_enter Tryz.func216,Tryz.ntmps216;go_wp2_with (go_at_call 168;refine (qQj hx U.out _).mono ?_;rintro e w1 ⟨rfl,rfl⟩);rw [T.out];exact bodyPost_ret (v:=.tuple #[.agg #[.bool false,.int .i64 0,.string ⟨#[]⟩],.int .i64 0,.int .i64 3]) (by simp [results,Tryz.results216,go_sem]) rfl ⟨rfl,Qj _ (.refl _ _)⟩
  · have n1:=qQq b1;go_enter Tryz.func216,Tryz.ntmps216;go_wp2_with (first | (go_at_call 168;refine (jQt hx U.out _).mono ?_;rintro e w1 ⟨rfl,rfl⟩) | (go_at_call 154;refine (xQq _ (by omega) (by omega) _).mono ?_;rintro e w1 ⟨rfl,rfl⟩));rw [T.out];exact bodyPost_ret (v:=.tuple #[.agg #[.bool true,.int .i64 (Kw n),.string ⟨#[]⟩],.int .i64 ((k:Int)+1),.int .i64 0]) (by simp [results,Tryz.results216,go_sem]) rfl ⟨rfl,Qj _ (.refl _ _)⟩
  · have n1:=kQD b1;have n2:=qQq b2;go_enter Tryz.func216,Tryz.ntmps216;go_wp2_with (go_at_call 168;refine (jQt hx U.out _).mono ?_;rintro e w1 ⟨rfl,rfl⟩);rw [T.out];exact bodyPost_ret (v:=.tuple #[.agg #[.bool false,.int .i64 0,.string ⟨#[]⟩],.int .i64 0,.int .i64 2]) (by simp [results,Tryz.results216,go_sem]) rfl ⟨rfl,Qj _ (.refl _ _)⟩
  · have n1:=kQD b1;have n2:=qQq b2;go_enter Tryz.func216,Tryz.ntmps216;go_wp2_with (go_at_call 168;refine (jQt hx U.out _).mono ?_;rintro e w1 ⟨rfl,rfl⟩);rw [T.out];exact bodyPost_ret (v:=.tuple #[.agg #[.bool false,.int .i64 0,.string ⟨#[]⟩],.int .i64 0,.int .i64 3]) (by simp [results,Tryz.results216,go_sem]) rfl ⟨rfl,Qj _ (.refl _ _)⟩
  · have n1:=kQD b1;have n2:=qQq b2;go_enter Tryz.func216,Tryz.ntmps216;go_wp2_with (go_at_call 168;refine (jQt hx U.out _).mono ?_;rintro e w1 ⟨rfl,rfl⟩);rw [T.out];exact bodyPost_ret (v:=.tuple #[.agg #[.bool false,.int .i64 0,.string (s.extract (k+1) (k+1+n))],.int .i64 ((k:Int)+1+n),.int .i64 0]) (by simp [results,Tryz.results216,go_sem]) rfl ⟨rfl,Qj _ (.refl _ _)⟩
end Go.Proofs.YtcbicdencgjfiaaGreatDoor
namespace Tryst
open Go Go.Lib
inductive Pr where
 | mk (op s:ByteArray) (num:Bool) (n:Int) (vs:ByteArray) (l:List Pr)
namespace Pr
def op:Pr->ByteArray | mk o _ _ _ _ _=>o
def s:Pr->ByteArray | mk _ s _ _ _ _=>s
def num:Pr->Bool | mk _ _ b _ _ _=>b
def n:Pr->Int | mk _ _ _ n _ _=>n
def vs:Pr->ByteArray | mk _ _ _ _ v _=>v
def l:Pr->List Pr | mk _ _ _ _ _ l=>l
def v (p:Pr):V:=⟨p.num,p.n,p.vs.data.toList⟩
def zero:Pr:=mk ⟨#[]⟩ ⟨#[]⟩ false 0 ⟨#[]⟩ []
end Pr
def Xb (p:List UInt8):Bool:=decide (p=[42])||(decide (p=[42,42])||Z1 p)
def Yz (s:List UInt8):Bool:=decide (s.length<=40)&&decide ((dots s).length<=8)&&(dots s).all Xb
inductive Opk where
 | all | topic | has | eq | lt | not | and | or
def Opk.text:Opk->ByteArray
 | .all=>⟨#[97,108,108]⟩
 | .topic=>⟨#[116,111,112,105,99]⟩
 | .has=>⟨#[104,97,115]⟩
 | .eq=>⟨#[101,113]⟩
 | .lt=>⟨#[108,116]⟩
 | .not=>⟨#[110,111,116]⟩
 | .and=>⟨#[97,110,100]⟩
 | .or=>⟨#[111,114]⟩
def opk (o:ByteArray):Option Opk:=
 if o.data.toList=[97,108,108] then some .all
 else if o.data.toList=[116,111,112,105,99] then some .topic
 else if o.data.toList=[104,97,115] then some .has
 else if o.data.toList=[101,113] then some .eq
 else if o.data.toList=[108,116] then some .lt
 else if o.data.toList=[110,111,116] then some .not
 else if o.data.toList=[97,110,100] then some .and
 else if o.data.toList=[111,114] then some .or
 else none
theorem jJM (o:ByteArray):(∃ k:Opk,o=k.text)∨(opk o=none/\(o.toList==[97,108,108])=false/\(o.toList==[116,111,112,105,99])=false/\(o.toList==[104,97,115])=false/\(o.toList==[101,113])=false/\(o.toList==[108,116])=false/\(o.toList==[110,111,116])=false/\(o.toList==[97,110,100])=false/\(o.toList==[111,114])=false):=by
 have key:∀ (k:Opk) (l:List UInt8),k.text.data.toList=l->o.data.toList=l->∃ k:Opk,o=k.text:=fun k l h1 h2=>⟨k,Xk (h2.trans h1.symm)⟩
 by_cases h1:o.data.toList=[97,108,108]
 · exact .inl (key .all _ rfl h1)
 by_cases h2:o.data.toList=[116,111,112,105,99]
 · exact .inl (key .topic _ rfl h2)
 by_cases h3:o.data.toList=[104,97,115]
 · exact .inl (key .has _ rfl h3)
 by_cases h4:o.data.toList=[101,113]
 · exact .inl (key .eq _ rfl h4)
 by_cases h5:o.data.toList=[108,116]
 · exact .inl (key .lt _ rfl h5)
 by_cases h6:o.data.toList=[110,111,116]
 · exact .inl (key .not _ rfl h6)
 by_cases h7:o.data.toList=[97,110,100]
 · exact .inl (key .and _ rfl h7)
 by_cases h8:o.data.toList=[111,114]
 · exact .inl (key .or _ rfl h8)
 refine .inr ⟨by simp only [opk,h1,h2,h3,h4,h5,h6,h7,h8,if_false],?_,?_,?_,?_,?_,?_,?_,?_⟩<;>rw [Qp]<;>simp [*]
theorem xQi (k:Opk):opk k.text=some k:=by cases k<;>rfl
def noV (num:Bool) (n:Int) (vs:ByteArray):Bool:=!num&&(decide (n=0)&&decide (vs.size=0))
def Z6 (op s:ByteArray) (num:Bool) (n:Int) (vs:ByteArray) (len:Nat):Bool:=
 match opk op with
 | none=>false
 | some .all=>decide (s.size=0)&&(noV num n vs&&decide (len=0))
 | some .topic=>Yz s.data.toList&&(noV num n vs&&decide (len=0))
 | some .has=>Q5 s.data.toList&&(noV num n vs&&decide (len=0))
 | some .eq=>Q5 s.data.toList&&(Go.Proofs.YtcbicdencgjfiaaGreatDoor.V.mayB ⟨num,n,vs.data.toList⟩&&decide (len=0))
 | some .lt=>Q5 s.data.toList&&(Go.Proofs.YtcbicdencgjfiaaGreatDoor.V.mayB ⟨num,n,vs.data.toList⟩&&decide (len=0))
 | some .not=>decide (s.size=0)&&(noV num n vs&&decide (len=1))
 | some .and=>decide (s.size=0)&&(noV num n vs&&decide (len=2))
 | some .or=>decide (s.size=0)&&(noV num n vs&&decide (len=2))
def Jj (k:Opk) (s:ByteArray) (num:Bool) (n:Int) (vs:ByteArray) (len:Nat):Bool:=
 match k with
 | .all=>decide (s.size=0)&&(noV num n vs&&decide (len=0))
 | .topic=>Yz s.data.toList&&(noV num n vs&&decide (len=0))
 | .has=>Q5 s.data.toList&&(noV num n vs&&decide (len=0))
 | .eq=>Q5 s.data.toList&&(Go.Proofs.YtcbicdencgjfiaaGreatDoor.V.mayB ⟨num,n,vs.data.toList⟩&&decide (len=0))
 | .lt=>Q5 s.data.toList&&(Go.Proofs.YtcbicdencgjfiaaGreatDoor.V.mayB ⟨num,n,vs.data.toList⟩&&decide (len=0))
 | .not=>decide (s.size=0)&&(noV num n vs&&decide (len=1))
 | .and=>decide (s.size=0)&&(noV num n vs&&decide (len=2))
 | .or=>decide (s.size=0)&&(noV num n vs&&decide (len=2))
theorem Yf (k:Opk) (s:ByteArray) (num:Bool) (n:Int) (vs:ByteArray) (len:Nat):Z6 k.text s num n vs len=Jj k s num n vs len:=by
 unfold Z6;rw [xQi];cases k<;>rfl
mutual
def X9:Pr->Nat->Nat->(Nat × Bool) × Nat
 | .mk op s num n vs l,room,nodes=>
  if room=0∨40 < nodes+1∨Z6 op s num n vs l.length=false then ((1,false),nodes+1)
  else match jQI l (room - 1) (nodes+1) 0 with
   | ((d,true),m)=>((d+1,true),m)
   | ((_,false),m)=>((1,false),m)
def jQI:List Pr->Nat->Nat->Nat->(Nat × Bool) × Nat
 | [],_,nodes,d=>((d,true),nodes)
 | q :: r,room,nodes,d=>match X9 q room nodes with
  | ((b,true),m)=>jQI r room m (max d b)
  | ((_,false),m)=>((0,false),m)
end
def mayP (p:Pr):Bool:=(X9 p 8 0).1.2&&decide ((X9 p 8 0).1.1<=8)
end Tryst
namespace Tryst
open Go
def zQt (f:List (List UInt8)->Bool):List (List UInt8)->Bool
 | []=>f []
 | x :: r=>f (x :: r)||zQt f r
def jQG:List (List UInt8)->List (List UInt8)->Bool
 | [],t=>t.isEmpty
 | p :: g,t=>if p=[42,42] then zQt (fun u=>jQG g u) t else match t with
  | []=>false
  | x :: r=>(decide (p=[42])||decide (p=x))&&jQG g r
theorem zQW (p:List UInt8) (g t:List (List UInt8)):jQG (p :: g) t=if p=[42,42] then zQt (fun u=>jQG g u) t else match t with
  | []=>false
  | x :: r=>(decide (p=[42])||decide (p=x))&&jQG g r:=by
 cases t<;>rfl
def kQx (g t:List (List UInt8)) (i j:Nat):List (Nat × Nat):=
 match g[i]? with
 | none=>[]
 | some p=>if p=[42,42] then (i+1,j) :: (if j < t.length then [(i,j+1)] else [])
  else if j < t.length/\(p=[42]∨t[j]?=some p) then [(i+1,j+1)] else []
section
variable {g t:List (List UInt8)}
theorem xQb {i j:Nat} (hi:i < g.length) (hj:j<=t.length):jQG (g.drop i) (t.drop j)=(kQx g t i j).any (fun s=>jQG (g.drop s.1) (t.drop s.2)):=by
 have hg:g.drop i=g[i] :: g.drop (i+1):=List.drop_eq_getElem_cons hi;unfold kQx;rw [List.getElem?_eq_getElem hi,hg,zQW]
 by_cases hp:g[i]=[42,42]
 ·
  simp only [hp,if_true]
  by_cases hlt:j < t.length
  ·
   have ht:t.drop j=t[j] :: t.drop (j+1):=List.drop_eq_getElem_cons hlt;have h2:jQG (g.drop i) (t.drop (j+1))=zQt (fun u=>jQG (g.drop (i+1)) u) (t.drop (j+1)):=by rw [hg,zQW,if_pos hp]
   simp only [hlt,if_true,List.any_cons,List.any_nil,Bool.or_false,h2];rw [ht];rfl
  · have ht:t.drop j=[]:=List.drop_eq_nil_of_le (by omega);simp only [hlt,if_false,List.any_cons,List.any_nil,Bool.or_false];rw [ht];rfl
 ·
  simp only [hp,if_false]
  by_cases hlt:j < t.length
  ·
   have ht:t.drop j=t[j] :: t.drop (j+1):=List.drop_eq_getElem_cons hlt;rw [ht];simp only [List.getElem?_eq_getElem hlt,Option.some.injEq,hlt,true_and]
   by_cases h1:g[i]=[42]
   · simp [h1]
   ·
    by_cases h2:g[i]=t[j]
    · simp [h1,h2]
    ·
     have h3:¬ t[j]=g[i]:=fun e=>h2 e.symm
     simp [h1,h2,h3]
  · have ht:t.drop j=[]:=List.drop_eq_nil_of_le (by omega);rw [ht];simp [hlt]
theorem kJp {j:Nat} (hj:j<=t.length):jQG (g.drop g.length) (t.drop j)=decide (j=t.length):=by
 rw [List.drop_length];show (t.drop j).isEmpty=_;rw [Bool.eq_iff_iff,List.isEmpty_iff,decide_eq_true_eq]
 constructor
 · intro h;have:=congrArg List.length h;simp at this;omega
 · rintro rfl;exact List.drop_length
theorem jJd {i j:Nat} {s:Nat × Nat} (hj:j<=t.length) (h:s∈kQx g t i j):s.1<=g.length/\s.2<=t.length/\(g.length - s.1)+(t.length - s.2) < (g.length - i)+(t.length - j):=by
 unfold kQx at h
 split at h
 · cases h
 ·
  rename_i p hp;have hi:i < g.length:=(List.getElem?_eq_some_iff.1 hp).1
  split at h
  ·
   rcases List.mem_cons.1 h with rfl | h
   · dsimp only;omega
   ·
    split at h
    · rw [List.mem_singleton] at h;subst h;dsimp only;omega
    · cases h
  ·
   split at h
   · rw [List.mem_singleton] at h;subst h;dsimp only;omega
   · cases h
theorem kJq {i j:Nat} (h:g.length<=i):kQx g t i j=[]:=by
 unfold kQx;rw [List.getElem?_eq_none h]
theorem qJG {C:Nat->Nat->Bool} (hC:∀ i j,C i j=true->∀ s∈kQx g t i j,C s.1 s.2=true):∀ (n i j:Nat),(g.length - i)+(t.length - j)<=n->i<=g.length->j<=t.length->C i j=true->jQG (g.drop i) (t.drop j)=true->C g.length t.length=true:=by
 intro n
 induction n with
 | zero=>
  intro i j hn hi hj hc _;obtain rfl:i=g.length:=by omega
  obtain rfl:j=t.length:=by omega
  exact hc
 | succ n ih=>
  intro i j hn hi hj hc hm
  by_cases hlt:i < g.length
  · rw [xQb hlt hj,List.any_eq_true] at hm;obtain ⟨s,hs,hm⟩:=hm;obtain ⟨h1,h2,h3⟩:=jJd hj hs;exact ih s.1 s.2 (by omega) h1 h2 (hC i j hc s hs) hm
  ·
   obtain rfl:i=g.length:=by omega
   rw [kJp hj,decide_eq_true_eq] at hm;subst hm;exact hc
structure MeetI (g t:List (List UInt8)) (met:Nat->Nat->Bool) (work:List (Nat × Nat)):Prop where
 start:met 0 0=true
 inb:∀ i j,met i j=true->i<=g.length/\j<=t.length
 wk:∀ s∈work,met s.1 s.2=true
 done:∀ i j,met i j=true->(i,j) ∉ work->∀ s∈kQx g t i j,met s.1 s.2=true
 back:∀ i j,met i j=true->jQG (g.drop i) (t.drop j)=true->jQG g t=true
theorem MeetI.first:MeetI g t (fun i j=>decide (i=0/\j=0)) [(0,0)] where
 start:=by simp
 inb i j h:=by simp only [decide_eq_true_eq] at h;omega
 wk s h:=by rw [List.mem_singleton] at h;subst h;simp
 done i j h hn:=by
  simp only [decide_eq_true_eq] at h;exact absurd (by simp [h.1,h.2]) hn
 back i j h hm:=by
  simp only [decide_eq_true_eq] at h;obtain ⟨rfl,rfl⟩:=h
  simpa using hm
theorem MeetI.last {met:Nat->Nat->Bool} (h:MeetI g t met []):met g.length t.length=jQG g t:=by
 rw [Bool.eq_iff_iff]
 constructor
 · intro hm;refine h.back _ _ hm ?_;rw [List.drop_length,List.drop_length];rfl
 · intro hm;exact qJG (fun i j hc=>h.done i j hc (by simp)) _ 0 0 (Nat.le_refl _) (Nat.zero_le _) (Nat.zero_le _) h.start (by simpa using hm)
def setM (met:Nat->Nat->Bool) (s:Nat × Nat):Nat->Nat->Bool:=fun i j=>decide ((i,j)=s)||met i j
def addM (x:(Nat->Nat->Bool) × List (Nat × Nat)) (s:Nat × Nat):(Nat->Nat->Bool) × List (Nat × Nat):=if x.1 s.1 s.2=true then x else (setM x.1 s,x.2++[s])
theorem zJB (x:(Nat->Nat->Bool) × List (Nat × Nat)) (s:Nat × Nat) {i j:Nat} (h:x.1 i j=true):(addM x s).1 i j=true:=by
 unfold addM
 split
 · exact h
 · show (decide _||x.1 i j)=true;rw [h,Bool.or_true]
theorem kJa (x:(Nat->Nat->Bool) × List (Nat × Nat)) (s:Nat × Nat):(addM x s).1 s.1 s.2=true:=by
 unfold addM
 split
 · assumption
 · simp [setM]
theorem jJn (x:(Nat->Nat->Bool) × List (Nat × Nat)) (s:Nat × Nat) {i j:Nat} (h:(addM x s).1 i j=true):x.1 i j=true∨((i,j)=s/\s∈(addM x s).2):=by
 unfold addM at h ⊢
 split at h
 · exact .inl h
 ·
  rename_i hn;rw [if_neg hn]
  rcases Bool.or_eq_true_iff.1 h with h | h
  · exact .inr ⟨by simpa using h,by simp⟩
  · exact .inl h
theorem kJI (x:(Nat->Nat->Bool) × List (Nat × Nat)) (s:Nat × Nat):∀ u∈(addM x s).2,u∈x.2∨u=s:=by
 unfold addM
 split
 · exact fun u h=>.inl h
 ·
  intro u h
  simpa using h
theorem zJf (x:(Nat->Nat->Bool) × List (Nat × Nat)) (s:Nat × Nat):∀ u∈x.2,u∈(addM x s).2:=by
 unfold addM
 split
 · exact fun u h=>h
 · intro u h;simp [h]
def qJ0 (g t:List (List UInt8)) (met:Nat->Nat->Bool) (w0:List (Nat × Nat)) (l:Nat × Nat):(Nat->Nat->Bool) × List (Nat × Nat):=(kQx g t l.1 l.2).foldl addM (met,w0)
theorem kQM (ss:List (Nat × Nat)):∀ (x:(Nat->Nat->Bool) × List (Nat × Nat)) {i j:Nat},x.1 i j=true->(ss.foldl addM x).1 i j=true:=by
 induction ss with
 | nil=>exact fun _ _ _ h=>h
 | cons s r ih=>exact fun x _ _ h=>ih _ (zJB x s h)
theorem vQu (ss:List (Nat × Nat)):∀ (x:(Nat->Nat->Bool) × List (Nat × Nat)),∀ s∈ss,(ss.foldl addM x).1 s.1 s.2=true:=by
 induction ss with
 | nil=>intro _ _ h;cases h
 | cons s r ih=>
  intro x u hu
  rcases List.mem_cons.1 hu with rfl | hu
  · exact kQM r _ (kJa x u)
  · exact ih _ u hu
theorem jJK (ss:List (Nat × Nat)):∀ (x:(Nat->Nat->Bool) × List (Nat × Nat)),∀ u∈x.2,u∈(ss.foldl addM x).2:=by
 induction ss with
 | nil=>exact fun _ _ h=>h
 | cons s r ih=>exact fun x u h=>ih _ u (zJf x s u h)
theorem kQW (ss:List (Nat × Nat)):∀ (x:(Nat->Nat->Bool) × List (Nat × Nat)) {i j:Nat},(ss.foldl addM x).1 i j=true->x.1 i j=true∨((i,j)∈ss/\(i,j)∈(ss.foldl addM x).2):=by
 induction ss with
 | nil=>exact fun _ _ _ h=>.inl h
 | cons s r ih=>
  intro x i j h
  rcases ih _ h with h | ⟨h1,h2⟩
  ·
   rcases jJn x s h with h | ⟨h1,h2⟩
   · exact .inl h
   · subst h1;exact .inr ⟨List.mem_cons_self,jJK r _ _ h2⟩
  · exact .inr ⟨List.mem_cons_of_mem _ h1,h2⟩
theorem zJ6 (ss:List (Nat × Nat)):∀ (x:(Nat->Nat->Bool) × List (Nat × Nat)),∀ u∈(ss.foldl addM x).2,u∈x.2∨u∈ss:=by
 induction ss with
 | nil=>exact fun _ _ h=>.inl h
 | cons s r ih=>
  intro x u h
  rcases ih _ u h with h | h
  ·
   rcases kJI x s u h with h | rfl
   · exact .inl h
   · exact .inr List.mem_cons_self
  · exact .inr (List.mem_cons_of_mem _ h)
theorem MeetI.round {met:Nat->Nat->Bool} {w0:List (Nat × Nat)} {l:Nat × Nat} (h:MeetI g t met (w0++[l])):MeetI g t (qJ0 g t met w0 l).1 (qJ0 g t met w0 l).2:=by
 have hl:met l.1 l.2=true:=h.wk l (by simp);obtain ⟨hl1,hl2⟩:=h.inb _ _ hl;unfold qJ0;refine ⟨kQM _ _ h.start,fun i j hc=>?_,fun s hs=>?_,fun i j hc hn s hs=>?_,fun i j hc hm=>?_⟩
 ·
  rcases kQW _ _ hc with hc | ⟨hc,_⟩
  · exact h.inb i j hc
  · obtain ⟨h1,h2,_⟩:=jJd hl2 hc;exact ⟨h1,h2⟩
 ·
  rcases zJ6 _ _ s hs with hs | hs
  · exact kQM _ _ (h.wk s (by simp [show s∈w0 from hs]))
  · exact vQu _ _ s hs
 ·
  rcases kQW _ _ hc with hc | ⟨_,hc⟩
  ·
   by_cases e:(i,j)=l
   · subst e;exact vQu _ _ s hs
   ·
    refine kQM _ _ (h.done i j hc (fun hm=>?_) s hs)
    rcases List.mem_append.1 hm with hm | hm
    · exact hn (jJK _ _ _ hm)
    · exact e (List.mem_singleton.1 hm)
  · exact absurd hc hn
 ·
  rcases kQW _ _ hc with hc | ⟨hc,_⟩
  · exact h.back i j hc hm
  ·
   refine h.back l.1 l.2 hl ?_
   by_cases hlt:l.1 < g.length
   · rw [xQb hlt hl2,List.any_eq_true];exact ⟨_,hc,hm⟩
   · rw [kJq (by omega)] at hc;cases hc
end
open Go.Lib
mutual
def Kg:Pr->Nat->Bool
 | .mk op s num n vs l,room=>decide (room≠0)&&(Z6 op s num n vs l.length&&jQL l (room - 1))
def jQL:List Pr->Nat->Bool
 | [],_=>true
 | q :: r,room=>Kg q room&&jQL r room
end
mutual
def Q9:Pr->Nat
 | .mk _ _ _ _ _ l=>1+J3 l
def J3:List Pr->Nat
 | []=>0
 | q :: r=>Q9 q+J3 r
end
theorem qJF (p:Pr):1<=Q9 p:=by
 cases p;rw [Q9];omega
mutual
theorem xQz:∀ (p:Pr) (room k:Nat),(X9 p room k).1.2=(Kg p room&&decide (k+Q9 p<=40))/\((X9 p room k).1.2=true->(X9 p room k).2=k+Q9 p/\(X9 p room k).1.1<=room)
 | .mk op s num n vs l,room,k=>by
  rw [X9,Kg,Q9]
  by_cases h:room=0∨40 < k+1∨Z6 op s num n vs l.length=false
  ·
   rw [if_pos h];refine ⟨?_,fun e=>by cases e⟩
   rcases h with h | h | h
   · simp [h]
   ·
    have:¬ (k+(1+J3 l)<=40):=by omega
    simp [this]
   · simp [h]
  ·
   rw [if_neg h];have h1:room≠0:=fun e=>h (.inl e)
   have h2:k+1<=40:=by
    have:=fun e=>h (.inr (.inl e))
    omega
   have h3:Z6 op s num n vs l.length=true:=by
    cases e:Z6 op s num n vs l.length with
    | false=>exact absurd (.inr (.inr e)) h
    | true=>rfl
   obtain ⟨e1,e2⟩:=jJc l (room - 1) (k+1) 0 h2 (Nat.zero_le _);rw [h3];have hk:k+(1+J3 l)=k+1+J3 l:=by omega
   rw [hk]
   rcases hd:jQI l (room - 1) (k+1) 0 with ⟨⟨d,b⟩,m⟩
   rw [hd] at e1 e2;cases b with
   | true=>
    obtain ⟨e3,e4⟩:=e2 rfl;refine ⟨?_,fun _=>⟨e3,?_⟩⟩
    · show true=_;simp only [h1,ne_eq,not_false_eq_true,decide_true,Bool.true_and];exact e1
    · show d+1<=room;have e4:d<=room - 1:=e4;omega
   | false=>
    refine ⟨?_,fun e=>by cases e⟩;show false=_;simp only [h1,ne_eq,not_false_eq_true,decide_true,Bool.true_and];exact e1
theorem jJc:∀ (l:List Pr) (room k d:Nat),k<=40->d<=room->(jQI l room k d).1.2=(jQL l room&&decide (k+J3 l<=40))/\((jQI l room k d).1.2=true->(jQI l room k d).2=k+J3 l/\(jQI l room k d).1.1<=room)
 | [],room,k,d,hk,hd=>by
  rw [jQI,jQL,J3];exact ⟨by simp [hk],fun _=>⟨rfl,hd⟩⟩
 | q :: r,room,k,d,hk,hd=>by
  rw [jQI,jQL,J3];obtain ⟨e1,e2⟩:=xQz q room k
  rcases hq:X9 q room k with ⟨⟨b,ok⟩,m⟩
  rw [hq] at e1 e2;cases ok with
  | true=>
   obtain ⟨rfl,e4⟩:=e2 rfl;have e1:true=(Kg q room&&decide (k+Q9 q<=40)):=e1;have e5:=e1.symm;rw [Bool.and_eq_true,decide_eq_true_eq] at e5;have e4:b<=room:=e4;obtain ⟨f1,f2⟩:=jJc r room (k+Q9 q) (max d b) e5.2 (by omega);have hn:k+(Q9 q+J3 r)=k+Q9 q+J3 r:=by omega
   rw [hn,e5.1,Bool.true_and];exact ⟨f1,f2⟩
  | false=>
   refine ⟨?_,fun e=>by cases e⟩;show false=_;have e1:false=(Kg q room&&decide (k+Q9 q<=40)):=e1
   rcases Bool.and_eq_false_iff.1 e1.symm with e | e
   · rw [e];rfl
   ·
    have:¬ (k+(Q9 q+J3 r)<=40):=by
     simp only [decide_eq_false_iff_not] at e;omega
    simp [this]
end
theorem qQi (p:Pr):mayP p=(Kg p 8&&decide (Q9 p<=40)):=by
 obtain ⟨h1,h2⟩:=xQz p 8 0;unfold mayP;rw [Nat.zero_add] at h1;cases hb:(X9 p 8 0).1.2 with
 | false=>rw [<- h1,hb];rfl
 | true=>
  rw [<- h1,hb];have:=(h2 hb).2;simp [this]
