import Derived.Deep.RegionWith
import Derived.Test.YtcbicdencgjfiaaGreatDoorDraws
import Derived.Test.YtcbicdencgjfiaaGreatDoorFacts
import Derived.Test.YtcbicdencgjfiaaGreatDoorShelf
set_option linter.all false
set_option maxHeartbeats 400000
set_option maxRecDepth 20000
namespace Go.Proofs.YtcbicdencgjfiaaGreatDoor
open Go.RowKit Tryst
theorem kJt (c k:Nat):(128<=c)∨(c < 128/\((c:Int)==0)=true/\0 < k/\Hid ((c=0/\0 < k)∨(k=9/\1 < c)))∨
  (c < 128/\((c:Int)==0)=false/\((k:Int)==9)=true/\1 < c/\Hid ((c=0/\0 < k)∨(k=9/\1 < c)))∨
  (c < 128/\((c:Int)==0)=true/\k<=0/\((k:Int)==9)=false/\Hid (¬ ((c=0/\0 < k)∨(k=9/\1 < c))))∨
  (c < 128/\((c:Int)==0)=false/\((k:Int)==9)=false/\Hid (¬ ((c=0/\0 < k)∨(k=9/\1 < c))))∨
  (c < 128/\((c:Int)==0)=false/\((k:Int)==9)=true/\c<=1/\Hid (¬ ((c=0/\0 < k)∨(k=9/\1 < c)))):=by
 simp only [beq_iff_eq,beq_eq_false_iff_ne,ne_eq,Hid];omega
theorem zQ4 (s:ByteArray) (hs:s.size<=1000000000) (w:World) :
  Calls Tryz.prog 168 #[.string s] w fun e w'=>e=.returned (.tuple #[.int .u64 (unp s.data.toList).1,.int .i64 (unp s.data.toList).2.1,.int .i64 (unp s.data.toList).2.2])/\w=w':=by
 go_enter Tryz.func168,Tryz.ntmps168
 by_cases hm:s.size<=10
 all_goals
  go_wp2
  go_loop [5,11] (fun n i=>∃ (k:Nat) (x:Int),k<=s.size/\k<=10/\i=.int .i64 k/\n=.int .u64 x/\jQg s.data.toList k x) (fun _ i=>s.size - (intOf i).toNat)
  case atStart=>exact ⟨0,0,by omega,by omega,rfl,rfl,.start _⟩
  case round=>
   obtain ⟨k,x,hk,hk10,rfl,rfl,hu⟩:=hrel
   by_cases hlt:k < s.size/\k < 10
   ·
    obtain ⟨hlt,hlt10⟩:=hlt;obtain ⟨c,hc⟩:∃ c,s[k].toNat=c:=⟨_,rfl⟩;have hcl:c < 256:=hc ▸ s[k].toNat_lt;have A1:=Zh (hu.step (by omega) (by simpa using hlt));have A2:=Zh (hu.bad (by omega) (by simpa using hlt));have A3:=Zh (hu.done (by omega) (by simpa using hlt));have e:s.data.toList[k]'(by simpa using hlt)=s[k]:=rfl;rw [e,hc] at A1 A2 A3;clear e hu
    rcases kJt c k with h | ⟨h,h0,h1,H⟩ | ⟨h,h0,h1,h2,H⟩ | ⟨h,h0,h1,h2,H⟩ | ⟨h,h0,h1,H⟩ | ⟨h,h0,h1,h2,H⟩
    ·
     go_wp2
     go_round
     case rel=>exact ⟨k+1,_,by omega,by omega,by go_num,rfl,A1.out h⟩
     case measure=>simp [intOf];omega
    · go_wp2;go_ret3;exact ⟨Yw (by rw [A2.out h H.out];rfl),rfl⟩
    · go_wp2;go_ret3;exact ⟨Yw (by rw [A2.out h H.out];rfl),rfl⟩
    all_goals
     obtain ⟨n,hn,hr⟩:=A3.out h H.out;have hn':=Zh hn;have hr':=Zh hr;clear hn hr A3 A1 A2;go_wp2;go_ret3;refine ⟨Yw ?_,rfl⟩;rw [hr'.out];have:=hn'.out
     first | (rw [this];rfl) | (simp at this ⊢;simp [this])
   ·
    by_cases h10:k < 10
    ·
     have hz:unp s.data.toList=(0,0,3):=hu.short (by simp;omega) (by omega);have HZ:=Zh hz;clear hz;go_wp2
     all_goals (go_ret3;exact ⟨Yw (by rw [HZ.out];rfl),rfl⟩)
    ·
     have hz:unp s.data.toList=(0,0,2):=hu.2 (by omega);have HZ:=Zh hz;clear hz;go_wp2
     all_goals (go_ret3;exact ⟨Yw (by rw [HZ.out];rfl),rfl⟩)
theorem u8T:SliceOf Tryz.prog 77 5 1 1:=.mk' Tryz.underlying77 (z:=.int .u8 0) (by kernel_rfl) rfl (by decide) (by decide)
theorem jYR (w:World):(Instr.makeSlice 77 (.int .i64 0) (.int .i64 10)).run Tryz.prog w=.ok (.slice (some ⟨w.heap.size,0,none⟩) 0 10) (w.alloc (.cells (Array.replicate 10 (.int .u8 0)) 5)):=by kernel_rfl
theorem jYV (n:Nat) (hn:n<=18446744073709551615) (w:World) :
  Calls Tryz.prog 164 #[.int .u64 n] w fun e w'=>e=.returned (.string ⟨(pack n).toArray⟩)/\Below w.heap.size w w':=by
 have hmk:=jYR;go_enter Tryz.func164,Tryz.ntmps164;go_wp2;clear hmk;have hst:=jQm.start n (by omega);go_loopw [0,3] (fun m v wr=>∃ (q:Nat) (pre:List UInt8),m=.int .u64 q/\q<=18446744073709551615/\jQm n pre q/\wr.ownsRow w.heap.size 5 1 v pre.length (pre.map qQI)/\Below w.heap.size w wr) (fun m _ _=>(intOf m).toNat)
 case atStart=>exact ⟨n,[],rfl,hn,hst,World.ownsRow_made _ _ _ (Nat.le_refl _) (by decide) rfl,(Below.refl _ _).alloc (Nat.le_refl _) _⟩
 case round=>
  obtain ⟨q,pre,rfl,hq,hr,hown,hb⟩:=hrel;have hB:=hb.size;have HR:=Zh hr;have hlen:pre.length<=9:=hr.1;clear hr hst
  by_cases h:128<=q
  ·
   have hs:=HR.out.step h;have HS:=Zh hs;have e:=or128 q;have E:=Zh e;clear hs e;go_wp2_with (at_builtin;refine Xw u8T rfl _ _ rfl w.heap.size _ _ _ rfl hown _ _ rfl rfl (by omega) hB ?_;intro v1 w1 hown1 hb1);go_roundw
   case rel=>
    rw [E.out] at hown1;exact ⟨q / 128,_,by go_num,by omega,HS.out.2,by simpa [qQI] using hown1,hb.trans hb1⟩
   case measure=>simp [intOf];omega
  · have hd:=Zh (HR.out.done (by omega));have hw8:=Zh (wrap8 q (by omega));go_wp2_with (at_builtin;refine Xw u8T rfl _ _ rfl w.heap.size _ _ _ rfl hown _ _ rfl rfl (by omega) hB ?_;intro v1 w1 hown1 hb1;have hcv:=kQj (P:=Tryz.prog) (l:=pre++[UInt8.ofNat q]) 77 9 Tryz.underlying77 Tryz.underlying5 Tryz.underlying9 (by rw [hw8.out] at hown1;simpa [qQI] using hown1));go_ret;exact ⟨jY4 hd.out.symm,hb.trans hb1⟩
theorem cv1:∀ (w:World) (g c:Nat),(qQC (w.cell? ⟨g,0,none⟩)).isSome=true->(convert 77 9 (.slice (some ⟨g,0,none⟩) 1 c)).run Tryz.prog w=.ok (.string ⟨[UInt8.ofNat ((qQC (w.cell? ⟨g,0,none⟩)).getD 0).toNat].toArray⟩) w:=conv1 Tryz.prog 77 5 9 Tryz.underlying77 Tryz.underlying5 Tryz.underlying9
theorem vYW (k:Nat) (hk:k<=9):∀ (n:Int) (w:World),0<=n->n<=18446744073709551615->n.toNat < 128 ^ (k+1)->
    Calls Tryz.prog 47 #[.int .u64 n] w fun e w'=>e=.returned (.string ⟨(jQY k n.toNat).toArray⟩)/\Below w.heap.size w w':=by
  induction k with
  | zero=>
    intro n w h0 h1 h2
    have h : n < 128 := by have : n.toNat < 128 := by simpa using h2
                           omega
    clear h2;have hv:=cv1;have hn:=xQD;go_enter Tryz.func47,Tryz.ntmps47;go_wp2_with fail;go_ret;exact ⟨rfl,(Below.refl _ _).alloc (Nat.le_refl _) _⟩
  | succ k ih=>
    intro n w h0 h1 h2
    by_cases h:n < 128
    · have hv:=cv1
      have hn:=xQD;have e:jQY (k+1) n.toNat=[UInt8.ofNat n.toNat]:=by rw [jQY,if_pos (by omega)]
      have E:=Zh e;clear ih h2 e;go_enter Tryz.func47,Tryz.ntmps47;go_wp2_with fail;go_ret;exact ⟨by rw [E.out];rfl,(Below.refl _ _).alloc (Nat.le_refl _) _⟩
    · have hi:(n / 128).toNat < 128 ^ (k+1):=by
        have:n.toNat / 128 < 128 ^ (k+1):=(Nat.div_lt_iff_lt_mul (by decide)).2 (by rw [Nat.pow_succ] at h2;exact h2);have e:(n / 128).toNat=n.toNat / 128:=by omega
        omega
      have IH0:(∀ (x:Int) (w:World),x=n / 128->Calls Tryz.prog 47 #[.int .u64 x] w fun e w'=>e=.returned (.string ⟨(jQY k (n / 128).toNat).toArray⟩)/\Below w.heap.size w w'):=by
        intro x w hx;subst hx;exact ih (by omega) (n / 128) w (by omega) (by omega) hi
      have IH:=Zh IH0;clear IH0;clear ih h2 hi;have hv:=cv1;have hn:=xQD;go_enter Tryz.func47,Tryz.ntmps47;go_wp2_with fail
      have e:jQY (k+1) n.toNat=UInt8.ofNat (128+n.toNat % 128) :: jQY k (n / 128).toNat:=by
        rw [jQY,if_neg (by omega)];congr 2;omega
      have E:=Zh e;clear e
      go_region_with (go_at_call 47;refine (IH.out _ _ ?hx).mono ?_;(case hx=>rw [IntKind.wrap_u64,Int.tdiv_eq_ediv_of_nonneg h0];omega);rintro e w1 ⟨rfl,hb1⟩;have hc1:=Z8 hb1;have hl:(jQY k (n / 128).toNat).length<=1500000:=by have:=jQp k (n / 128).toNat;omega)
      all_goals
        go_wp2;go_ret;refine ⟨?_,?_⟩
        · rw [E.out]
          refine Yw ?_;show Value.string _=_;rw [show (128+n % 128).toNat=128+n.toNat % 128 by omega];exact congrArg Value.string (ByteArray.mk_append_mk [_] _)
        · repeat (first | exact Below.refl _ _ | assumption | refine Y0 ?_ | refine Qj _ ?_ | refine Qk (by assumption) ?_)
theorem Y4 (n:Int) (w:World) (h0:0<=n) (h1:n<=18446744073709551615) :
  Calls Tryz.prog 47 #[.int .u64 n] w fun e w'=>e=.returned (.string ⟨(pack n.toNat).toArray⟩)/\Below w.heap.size w w':=
 vYW 9 (by omega) n w h0 h1 (Nat.lt_of_lt_of_le (show n.toNat < 2 ^ 64 by omega) (by decide))
theorem zQM (n:Int) (w:World) (h0:0<=n) (h1:n<=18446744073709551615) :
  Calls Tryz.prog 164 #[.int .u64 n] w fun e w'=>e=.returned (.string ⟨(pack n.toNat).toArray⟩)/\Below w.heap.size w w':=by
 obtain ⟨m,rfl⟩:=Int.eq_ofNat_of_zero_le h0;exact jYV m (by omega) w
theorem zJb (n:Int) (h0:-9223372036854775808<=n) (h1:n<=9223372036854775807) (w:World) :
  Calls Tryz.prog 138 #[.int .i64 n] w fun e w'=>e=.returned (.int .u64 (fold n:Nat))/\w=w':=by
 go_enter Tryz.func138,Tryz.ntmps138
 by_cases h:0<=n
 all_goals
  go_wp2;go_ret;exact ⟨Yw (congrArg (Value.int .u64) (by unfold fold;first | (rw [if_pos (by omega)];omega) | (rw [if_neg (by omega)];omega))),rfl⟩
theorem zYO (n:Int) (h0:-9223372036854775808<=n) (h1:n<=9223372036854775807) (w:World) :
  Calls Tryz.prog 103 #[.int .i64 n] w fun e w'=>e=.returned (.int .u64 (fold n:Nat))/\w=w':=by
 go_enter Tryz.func103,Tryz.ntmps103
 by_cases h:0<=n
 all_goals
  go_wp2;go_ret;exact ⟨Yw (congrArg (Value.int .u64) (by unfold fold;first | (rw [if_pos (by omega)];omega) | (rw [if_neg (by omega)];omega))),rfl⟩
theorem and1 (n:Int) (h0:0<=n) (h1:n<=18446744073709551615):bits BinOp.and IntKind.u64 n 1=n % 2:=by
 have:=u64_and n 1 h0 (by omega) (by decide) (by decide);rw [this,show (1:Int).toNat=1 from rfl,nat_mask1];omega
theorem xQq (n:Int) (h0:0<=n) (h1:n<=18446744073709551615) (w:World) :
  Calls Tryz.prog 154 #[.int .u64 n] w fun e w'=>e=.returned (.int .i64 (Kw n.toNat))/\w=w':=by
 have ha:=and1 n h0 h1;go_enter Tryz.func154,Tryz.ntmps154
 by_cases h:n % 2=0
 ·
  have hb:(n % 2==0)=true:=by simpa using h
  have H:=Zh h;clear h;go_wp2;go_ret;have:=H.out;exact ⟨Yw (congrArg (Value.int .i64) (by unfold Kw;rw [if_pos (by omega)];omega)),rfl⟩
 ·
  have hb:(n % 2==0)=false:=by simpa using h
  have H:=Zh h;clear h;go_wp2;go_ret;have:=H.out;exact ⟨Yw (congrArg (Value.int .i64) (by unfold Kw;rw [if_neg (by omega)];omega)),rfl⟩
theorem zYe (n:Int) (h0:0<=n) (h1:n<=18446744073709551615) (w:World) :
  Calls Tryz.prog 196 #[.int .u64 n] w fun e w'=>e=.returned (.int .i64 (Kw n.toNat))/\w=w':=by
 go_enter Tryz.func196,Tryz.ntmps196
 by_cases h:n % 2=0
 ·
  have hb:(n % 2==0)=true:=by simpa using h
  have H:=Zh h;clear h;go_wp2;go_ret;have:=H.out;exact ⟨Yw (congrArg (Value.int .i64) (by unfold Kw;rw [if_pos (by omega)];omega)),rfl⟩
 ·
  have hb:(n % 2==0)=false:=by simpa using h
  have H:=Zh h;clear h;go_wp2;go_ret;have:=H.out;exact ⟨Yw (congrArg (Value.int .i64) (by unfold Kw;rw [if_neg (by omega)];omega)),rfl⟩
set_option maxHeartbeats 4000000 in
theorem Z4 (s:ByteArray) (hs:s.size<=1000000000) (w:World) :
  Calls Tryz.prog 147 #[.string s] w fun e w'=>e=.returned (.tuple #[.int .u64 (unp s.data.toList).1,.int .i64 (unp s.data.toList).2.1,.int .i64 (unp s.data.toList).2.2])/\Below w.heap.size w w':=by
 go_enter Tryz.func147,Tryz.ntmps147;go_wp2
 go_loop [5] (fun i=>∃ (k:Nat),k<=s.size/\k<=10/\i=.int .i64 k/\Lead s.data.toList k) (fun i=>s.size - (intOf i).toNat)
 case atStart=>exact ⟨0,by omega,by omega,rfl,.start _⟩
 case round=>
  obtain ⟨k,hk,hk10,rfl,hu⟩:=hrel
  by_cases hlt:k < s.size
  ·
   obtain ⟨c,hc⟩:∃ c,s[k].toNat=c:=⟨_,rfl⟩;have hcl:c < 256:=hc ▸ s[k].toNat_lt;have hlt':k < s.data.toList.length:=by simpa using hlt
   have A1:=Zh (fun h=>hu.step h hlt');have A2:=Zh (fun h=>hu.nine h hlt');have A3:=Zh (fun h=>hu.done h hlt');have A4:=Zh (fun h=>hu.ten h);have A5:=Zh (fun h=>hu.val_lt h hlt');have A6:=Zh (fun (j:Nat) (hj:j<=k)=>vY9 (j:=j) hlt' hj);have e:s.data.toList[k]=s[k]:=rfl;rw [e,hc] at A1 A2 A3 A5;clear e hu
   by_cases h10:10<=k
   ·
    have e10:((k:Int)==9)=false:=by simp;omega
    have Z:=Zh (A4.out h10);go_wp2
    all_goals (go_ret3;exact ⟨Yw (by rw [Z.out];rfl),.refl _ _⟩)
   ·
    by_cases hc8:128<=c
    ·
     go_wp2
     go_round
     case rel=>exact ⟨k+1,by omega,by omega,by go_num,A1.out (by omega) hc8⟩
     case measure=>simp [intOf]<;>omega
    ·
     have D:(((k:Int)==9)=true/\1 < c/\Hid (k=9))∨(((k:Int)==9)=true/\c<=1)∨(((k:Int)==9)=false/\Hid (k≠9)):=by simp [Hid];omega
     rcases D with ⟨b9,h1,H9⟩ | D
     ·
      have Z:=Zh (A2.out H9.out (by omega) h1);have h9:=H9.out;have hx:∃ h:9 < s.size,s[9].toNat=c:=by subst h9;exact ⟨hlt,hc⟩
      clear h9;obtain ⟨h9',hx⟩:=hx;go_wp2
      all_goals (go_ret3;exact ⟨Yw (by rw [Z.out];rfl),.refl _ _⟩)
     ·
      have F9:Hid (k=9->c<=1):=by
       rcases D with ⟨_,h1⟩ | ⟨_,h1⟩
       · exact fun _=>h1
       · exact fun h=>absurd h h1.out
      have h9:=Zh (show k<=9 by omega)
      have D2:(((k:Int)==9)=true/\c<=1/\∃ h:9 < s.size,s[9].toNat=c)∨(((k:Int)==9)=false/\True/\True):=by
       rcases D with ⟨b9,h1⟩ | ⟨b9,h1⟩
       ·
        have e9:k=9:=by simp at b9;omega
        subst e9;exact .inl ⟨b9,h1,hlt,hc⟩
       · exact .inr ⟨b9,trivial,trivial⟩
      clear D
      rcases D2 with ⟨b9,h1,hx⟩ | ⟨b9,h1,hx⟩
      all_goals
       have HX:=Zh hx;clear hx
       first | (obtain ⟨h9',hx⟩:=HX.out) | skip
       go_wp2
       go_loop [6,7] (fun n i=>∃ (j N:Nat),j<=k+1/\i=.int .i64 ((j:Int) - 1)/\n=.int .u64 N/\Hid (N=hor ((s.data.toList.take (k+1)).drop j))) (fun _ i=>(intOf i+1).toNat)
       case atStart=>exact ⟨k+1,0,by omega,by go_num,rfl,by unfold Hid;simp [hor]⟩
       case round=>
        obtain ⟨j,N,hj,rfl,rfl,hN⟩:=hrel;cases j with
        | zero=>
         have hN':=hN.out;rw [List.drop_zero] at hN';have hlt9:=A5.out h9.out F9.out 0;rw [List.drop_zero,<- hN'] at hlt9;have hlt8:(N:Int)<=18446744073709551615:=by omega
         have Z:=A3.out h9.out (by omega) F9.out;rw [<- hN'] at Z;have Z':=Zh Z;have w1:IntKind.i64.wrap ((k:Int)+1)=(k:Int)+1:=IntWalk.i64_in _ (by omega);have w2:((k:Int)+1).toNat=k+1:=by omega
         have w3:(0:Int)<=k+1:=by omega
         clear Z hN' hN hlt9 A1 A2 A3 A4 A5 A6
         by_cases hp:pack N=s.data.toList.take (k+1)
         ·
          have e:(pack N==(s.extract 0 (k+1)).toList)=true:=by
           rw [Qp,zQ7];simpa using hp
          have HP:=Zh hp;clear hp;go_wp2_with fail
          go_region_with (go_at_call 47;refine (Y4 _ _ (by omega) (by omega)).mono ?_;rintro e w1 ⟨rfl,hb1⟩)
          all_goals
           go_wp2
           go_ret3
           have ZZ:=Z'.out;rw [if_pos HP.out] at ZZ;refine ⟨Yw (by rw [ZZ];rfl),?_⟩
           repeat (first | exact Below.refl _ _ | assumption | refine Y0 ?_ | refine Qj _ ?_ | refine Qk (by assumption) ?_)
         ·
          have e:(pack N==(s.extract 0 (k+1)).toList)=false:=by
           rw [Qp,zQ7];simpa using hp
          have HP:=Zh hp;clear hp;go_wp2_with fail
          go_region_with (go_at_call 47;refine (Y4 _ _ (by omega) (by omega)).mono ?_;rintro e w1 ⟨rfl,hb1⟩)
          all_goals
           go_wp2
           go_ret3
           have ZZ:=Z'.out;rw [if_neg HP.out] at ZZ;refine ⟨Yw (by rw [ZZ];rfl),?_⟩
           repeat (first | exact Below.refl _ _ | assumption | refine Y0 ?_ | refine Qj _ ?_ | refine Qk (by assumption) ?_)
        | succ j=>
         have hs1:=A6.out j (by omega);have hb1:=A5.out h9.out F9.out j;have e:∀ h,s.data.toList[j]'h=s[j]'(by simpa using h):=fun h=>rfl
         rw [e] at hs1;rw [<- hN.out] at hs1;obtain ⟨M,hM⟩:∃ M,hor ((s.data.toList.take (k+1)).drop j)=M:=⟨_,rfl⟩;rw [hM] at hs1 hb1;have HM:=Zh hM.symm;have HS:=Zh hs1;have hj1:j < s.size:=by omega
         have hb2:128*N<=18446744073709551615:=by omega
         have hb3:128*N+(s[j]'hj1).toNat % 128<=18446744073709551615:=by omega
         have e0:((j+1:Nat):Int) - 1=j:=by omega
         clear hM hs1 e hb1 hN A1 A2 A3 A4 A5 A6;go_wp2
         go_round
         case rel=>exact ⟨j,M,by omega,rfl,congrArg (Value.int .u64) (by have:=HS.out;omega),HM⟩
         case measure=>simp [intOf]<;>omega
  ·
   have hke:k=s.data.toList.length:=by simp;omega
   by_cases h10:10<=k
   ·
    have Z:=Zh (hu.ten h10);clear hke;go_wp2
    all_goals (go_ret3;exact ⟨Yw (by rw [Z.out];rfl),.refl _ _⟩)
   ·
    have Z:=Zh (hu.short (by omega) hke);have hke':k=s.size:=by omega
    clear hke hu;subst hke';go_wp2
    all_goals (go_ret3;exact ⟨Yw (by rw [Z.out];rfl),.refl _ _⟩)
def V.mayB (v:V):Bool:=decide v.May
theorem zJK (n:Int) (l:List UInt8):V.mayB ⟨true,n,l⟩=l.isEmpty:=by
 unfold V.mayB V.May;cases l<;>simp
theorem xQ1 (n:Int) (l:List UInt8):V.mayB ⟨false,n,l⟩=(decide (n=0)&&decide (l.length<=60)):=by
 unfold V.mayB V.May;simp
theorem qQS (num:Bool) (n:Int) (s:ByteArray) (hs:s.size<=1000000000) (w:World) :
  Calls Tryz.prog 217 #[.agg #[.bool num,.int .i64 n,.string s]] w fun e w'=>e=.returned (.bool (V.mayB ⟨num,n,s.data.toList⟩))/\Below w.heap.size w w':=by
 cases num with
 | true=>
  go_enter Tryz.func217,Tryz.ntmps217;go_wp2;go_ret;exact ⟨Qq (by rw [zJK,<- Qp]),Qj _ (.refl _ _)⟩
 | false=>
  by_cases h:n=0
  · subst h;go_enter Tryz.func217,Tryz.ntmps217;go_wp2;go_ret;exact ⟨Qq (by rw [xQ1,Qx];simp;omega),Qj _ (.refl _ _)⟩
  ·
   have hb:(n==0)=false:=by simpa using h
   have H:=Zh h;clear h;go_enter Tryz.func217,Tryz.ntmps217;go_wp2;go_ret;exact ⟨Qq (by rw [xQ1];have:=H.out;simp [this]),Qj _ (.refl _ _)⟩
theorem kYW (num:Bool) (n:Int) (s:ByteArray) (hs:s.size<=1000000000) (w:World) :
  Calls Tryz.prog 150 #[.agg #[.bool num,.int .i64 n,.string s]] w fun e w'=>e=.returned (.bool (V.mayB ⟨num,n,s.data.toList⟩))/\Below w.heap.size w w':=by
 cases num with
 | true=>
  by_cases h:s.data.toList=[]
  ·
   have hb:s.toList.isEmpty=true:=by rw [Qp];simpa using h
   have H:=Zh h;clear h;go_enter Tryz.func150,Tryz.ntmps150;go_wp2;go_ret;exact ⟨Qq (by rw [zJK];have:=H.out;cases h:s.data.toList<;>simp_all),Qj _ (.refl _ _)⟩
  ·
   have hb:s.toList.isEmpty=false:=by rw [Qp];simpa using h
   have H:=Zh h;clear h;go_enter Tryz.func150,Tryz.ntmps150;go_wp2;go_ret;exact ⟨Qq (by rw [zJK];have:=H.out;cases h:s.data.toList<;>simp_all),Qj _ (.refl _ _)⟩
 | false=>
  by_cases h:n=0
  · subst h;go_enter Tryz.func150,Tryz.ntmps150;go_wp2;go_ret;exact ⟨Qq (by rw [xQ1,Qx];simp;omega),Qj _ (.refl _ _)⟩
  ·
   have hb:(n==0)=false:=by simpa using h
   have H:=Zh h;clear h;go_enter Tryz.func150,Tryz.ntmps150;go_wp2;go_ret;exact ⟨Qq (by rw [xQ1];have:=H.out;simp [this]),Qj _ (.refl _ _)⟩
theorem xJv (x y:Bool) (n m:Int) (s t:ByteArray) (w:World) :
  Calls Tryz.prog 228 #[.agg #[.bool x,.int .i64 n,.string s],.agg #[.bool y,.int .i64 m,.string t]] w fun e w'=>
   e=.returned (.int .i64 (V.order ⟨x,n,s.data.toList⟩ ⟨y,m,t.data.toList⟩))/\Below w.heap.size w w':=by
 cases x<;>cases y
 all_goals
  go_enter Tryz.func228,Tryz.ntmps228;go_wp2_with (first | (go_at_call 239;refine (Tryz.strings_Compare _ _ _).mono ?_;rintro e w1 ⟨rfl,rfl⟩) | go_in)
 all_goals go_ret
 all_goals refine ⟨Qy ?_,by repeat (first | exact Below.refl _ _ | refine Y0 ?_ | refine Qj _ ?_)⟩
 all_goals simp [V.order, *]
 all_goals omega
theorem zYf (s t:ByteArray):(Op.bytesLess s.toList t.toList=true/\(s.toList==t.toList)=false/\Hid (Lib.compareBytes s.data.toList t.data.toList=-1))∨
  (Op.bytesLess s.toList t.toList=false/\(s.toList==t.toList)=true/\Hid (Lib.compareBytes s.data.toList t.data.toList=0))∨
  (Op.bytesLess s.toList t.toList=false/\(s.toList==t.toList)=false/\Hid (Lib.compareBytes s.data.toList t.data.toList=1)):=by
 have hl:Op.bytesLess s.toList t.toList=decide (Lib.compareBytes s.data.toList t.data.toList < 0):=by rw [Qp,Qp,zY7]
 have he:(s.toList==t.toList)=decide (Lib.compareBytes s.data.toList t.data.toList=0):=by
  rw [Qp,Qp,Bool.eq_iff_iff];simp [zY2]
 rcases kYy s.data.toList t.data.toList with h | h | h
 · exact .inl ⟨by rw [hl,h];rfl,by rw [he,h];rfl,h⟩
 · exact .inr (.inl ⟨by rw [hl,h];rfl,by rw [he,h];rfl,h⟩)
 · exact .inr (.inr ⟨by rw [hl,h];rfl,by rw [he,h];rfl,h⟩)
theorem vY3 (x y:Bool) (n m:Int) (s t:ByteArray) (w:World) :
  Calls Tryz.prog 152 #[.agg #[.bool x,.int .i64 n,.string s],.agg #[.bool y,.int .i64 m,.string t]] w fun e w'=>
   e=.returned (.int .i64 (V.order ⟨x,n,s.data.toList⟩ ⟨y,m,t.data.toList⟩))/\Below w.heap.size w w':=by
 rcases zYf s t with ⟨hl,he,HC⟩ | ⟨hl,he,HC⟩ | ⟨hl,he,HC⟩
 all_goals
  cases x<;>cases y
 all_goals
  go_enter Tryz.func152,Tryz.ntmps152;go_wp2
 all_goals go_ret
 all_goals refine ⟨Qy ?_,by repeat (first | exact Below.refl _ _ | refine Y0 ?_ | refine Qj _ ?_)⟩
 all_goals have hc:=HC.out
 all_goals clear HC
 all_goals simp [V.order, *]
 all_goals omega
theorem jQt {s:ByteArray} (hs:s.size<=1000000000) {n k:Nat} (h:unp s.data.toList=(n,k,0)) (w:World) :
  Calls Tryz.prog 168 #[.string s] w fun e w'=>e=.returned (.tuple #[.int .u64 n,.int .i64 k,.int .i64 0])/\w=w':=by
 have:=zQ4 s hs w;rw [h] at this;exact this
theorem kQH {s:ByteArray} (hs:s.size<=1000000000) (h:unp s.data.toList=(0,0,2)) (w:World) :
  Calls Tryz.prog 168 #[.string s] w fun e w'=>e=.returned (.tuple #[.int .u64 0,.int .i64 0,.int .i64 2])/\w=w':=by
 have:=zQ4 s hs w;rw [h] at this;exact this
theorem qQj {s:ByteArray} (hs:s.size<=1000000000) (h:unp s.data.toList=(0,0,3)) (w:World) :
  Calls Tryz.prog 168 #[.string s] w fun e w'=>e=.returned (.tuple #[.int .u64 0,.int .i64 0,.int .i64 3])/\w=w':=by
 have:=zQ4 s hs w;rw [h] at this;exact this
theorem kYU {s:ByteArray} (hs:s.size<=1000000000) {n k:Nat} (h:unp s.data.toList=(n,k,0)) (w:World) :
  Calls Tryz.prog 147 #[.string s] w fun e w'=>e=.returned (.tuple #[.int .u64 n,.int .i64 k,.int .i64 0])/\Below w.heap.size w w':=by
 have:=Z4 s hs w;rw [h] at this;exact this
theorem kYh {s:ByteArray} (hs:s.size<=1000000000) (h:unp s.data.toList=(0,0,2)) (w:World) :
  Calls Tryz.prog 147 #[.string s] w fun e w'=>e=.returned (.tuple #[.int .u64 0,.int .i64 0,.int .i64 2])/\Below w.heap.size w w':=by
 have:=Z4 s hs w;rw [h] at this;exact this
theorem kYZ {s:ByteArray} (hs:s.size<=1000000000) (h:unp s.data.toList=(0,0,3)) (w:World) :
  Calls Tryz.prog 147 #[.string s] w fun e w'=>e=.returned (.tuple #[.int .u64 0,.int .i64 0,.int .i64 3])/\Below w.heap.size w w':=by
 have:=Z4 s hs w;rw [h] at this;exact this
theorem kQD {x y:Int} (h:(x==y)=false):(x != y)=true:=by rw [bne,h];rfl
theorem qQq {x y:Int} (h:(x==y)=true):(x != y)=false:=by rw [bne,h];rfl
theorem jJA (s:ByteArray) (h1:1<=s.size):∃ c:Nat,c < 256/\s[0].toNat=c/\
  (((((c:Int)==1)=false/\((c:Int)==2)=false)/\Hid (Jp s.data.toList=(V.zero,0,2)))∨
  ((((c:Int)==1)=true∨(((c:Int)==1)=false/\((c:Int)==2)=true))/\Hid (unp (s.extract 1 s.size).data.toList=(0,0,2))/\Hid (Jp s.data.toList=(V.zero,0,2)))∨
  ((((c:Int)==1)=true∨(((c:Int)==1)=false/\((c:Int)==2)=true))/\Hid (unp (s.extract 1 s.size).data.toList=(0,0,3))/\Hid (Jp s.data.toList=(V.zero,0,3)))∨
  (∃ n k:Nat,n<=18446744073709551615/\k<=10/\k+1<=s.size/\((c:Int)==1)=true/\Hid (unp (s.extract 1 s.size).data.toList=(n,k,0))/\Hid (Jp s.data.toList=(⟨true,Kw n,[]⟩,k+1,0)))∨
  (∃ n k:Nat,n<=18446744073709551615/\k<=10/\k+1<=s.size/\((c:Int)==1)=false/\((c:Int)==2)=true/\60 < n/\Hid (unp (s.extract 1 s.size).data.toList=(n,k,0))/\Hid (Jp s.data.toList=(V.zero,0,2)))∨
  (∃ n k:Nat,n<=60/\k<=10/\k+1<=s.size/\((c:Int)==1)=false/\((c:Int)==2)=true/\s.size < k+1+n/\Hid (unp (s.extract 1 s.size).data.toList=(n,k,0))/\Hid (Jp s.data.toList=(V.zero,0,3)))∨
  (∃ n k:Nat,n<=60/\k<=10/\k+1<=s.size/\((c:Int)==1)=false/\((c:Int)==2)=true/\k+1+n<=s.size/\Hid (unp (s.extract 1 s.size).data.toList=(n,k,0))/\Hid (Jp s.data.toList=(⟨false,0,(s.extract (k+1) (k+1+n)).data.toList⟩,k+1+n,0)))):=by
 have hlen:0 < s.data.toList.length:=by simp;omega
 obtain ⟨r,hr⟩:∃ r,s.data.toList=s[0] :: r:=⟨_,by rw [<- List.drop_zero (l:=s.data.toList),List.drop_eq_getElem_cons hlen];rfl⟩
 have hx:(s.extract 1 s.size).data.toList=r:=by
  rw [zQ7,<- Qx,List.take_length,hr];rfl
 have hsz:s.size=r.length+1:=by rw [<- Qx,hr];rfl
 have c1:∀ d:Nat,d < 256->((s[0].toNat=d)↔s[0]=UInt8.ofNat d):=fun d hd=>by
  constructor
  · intro h;apply UInt8.toNat.inj;rw [h];simp;omega
  · intro h;rw [h];simp;omega
 refine ⟨s[0].toNat,s[0].toNat_lt,rfl,?_⟩;rw [hx]
 have T:Jp (s[0] :: r)=if s[0]≠1/\s[0]≠2 then (V.zero,0,2)
   else if (unp r).2.2≠0 then (V.zero,0,(unp r).2.2)
   else if s[0]=1 then (⟨true,Kw (unp r).1,[]⟩,(unp r).2.1+1,0)
   else if 60 < (unp r).1 then (V.zero,0,2)
   else if (s[0] :: r).length < (unp r).2.1+1+(unp r).1 then (V.zero,0,3)
   else (⟨false,0,((s[0] :: r).take ((unp r).2.1+1+(unp r).1)).drop ((unp r).2.1+1)⟩,(unp r).2.1+1+(unp r).1,0):=rfl
 rw [<- hr] at T;have b11:((s[0].toNat:Int)==1)=decide (s[0].toNat=1):=by rw [Bool.eq_iff_iff];simp;omega
 have b12:((s[0].toNat:Int)==2)=decide (s[0].toNat=2):=by rw [Bool.eq_iff_iff];simp;omega
 rw [b11,b12]
 by_cases h1':s[0]=1
 ·
  have e1:s[0].toNat=1:=by rw [h1'];rfl
  rw [e1];rw [if_neg (by simp [h1'])] at T
  rcases kQs r with hu | hu | hu
  ·
   have hu':unp r=((unp r).1,(unp r).2.1,0):=by rw [<- hu]
   rw [if_neg (by omega),if_pos h1'] at T;obtain ⟨g1,g2,g3,g4,g5⟩:=qQf hu';exact .inr (.inr (.inr (.inl ⟨_,_,by omega,g4,by omega,by decide,hu',T⟩)))
  · rw [hu,if_pos (by simp)] at T;exact .inr (.inl ⟨.inl (by decide),hu,T⟩)
  · rw [hu,if_pos (by simp)] at T;exact .inr (.inr (.inl ⟨.inl (by decide),hu,T⟩))
 ·
  by_cases h2':s[0]=2
  ·
   have e2:s[0].toNat=2:=by rw [h2'];rfl
   rw [e2];rw [if_neg (by simp [h2'])] at T
   rcases kQs r with hu | hu | hu
   ·
    have hu':unp r=((unp r).1,(unp r).2.1,0):=by rw [<- hu]
    rw [if_neg (by omega),if_neg h1'] at T;obtain ⟨g1,g2,g3,g4,g5⟩:=qQf hu'
    by_cases h60:60 < (unp r).1
    · rw [if_pos h60] at T;exact .inr (.inr (.inr (.inr (.inl ⟨_,_,by omega,g4,by omega,by decide,by decide,h60,hu',T⟩))))
    ·
     rw [if_neg h60,Qx] at T
     by_cases hl:s.size < (unp r).2.1+1+(unp r).1
     · rw [if_pos hl] at T;exact .inr (.inr (.inr (.inr (.inr (.inl ⟨_,_,by omega,g4,by omega,by decide,by decide,hl,hu',T⟩)))))
     · rw [if_neg hl,<- zQ7] at T;exact .inr (.inr (.inr (.inr (.inr (.inr ⟨_,_,by omega,g4,by omega,by decide,by decide,by omega,hu',T⟩)))))
   · rw [hu,if_pos (by simp)] at T;exact .inr (.inl ⟨.inr ⟨by decide,by decide⟩,hu,T⟩)
   · rw [hu,if_pos (by simp)] at T;exact .inr (.inr (.inl ⟨.inr ⟨by decide,by decide⟩,hu,T⟩))
  ·
   rw [if_pos ⟨h1',h2'⟩] at T;refine .inl ⟨⟨?_,?_⟩,T⟩
   · rw [decide_eq_false_iff_not,c1 1 (by decide)];exact h1'
   · rw [decide_eq_false_iff_not,c1 2 (by decide)];exact h2'
theorem zJt (s:ByteArray) (hs:s.size<=1000000000) (w:World) :
  Calls Tryz.prog 216 #[.string s] w fun e w'=>e=.returned (.tuple #[.agg #[.bool (Jp s.data.toList).1.num,.int .i64 (Jp s.data.toList).1.n,.string ⟨(Jp s.data.toList).1.s.toArray⟩],.int .i64 (Jp s.data.toList).2.1,.int .i64 (Jp s.data.toList).2.2])/\Below w.heap.size w w':=by
 by_cases h0:s.size=0
 ·
  have hz:s.toList.isEmpty=true:=by rw [Qp,List.isEmpty_iff,qQ6];exact h0
  have hl:s.data.toList=[]:=(qQ6 s).2 h0;rw [hl];clear h0 hl;go_enter Tryz.func216,Tryz.ntmps216;go_wp2_with fail;exact bodyPost_ret (v:=.tuple #[.agg #[.bool false,.int .i64 0,.string ⟨#[]⟩],.int .i64 0,.int .i64 3]) (by simp [results,Tryz.results216,go_sem]) rfl ⟨rfl,Qj _ (.refl _ _)⟩
 ·
  have hz:s.toList.isEmpty=false:=by
   rw [Qp,Bool.eq_false_iff,ne_eq,List.isEmpty_iff,qQ6];exact h0
  have h1:1<=s.size:=by omega
  have hx:(s.extract 1 s.size).size<=1000000000:=by simp;omega
  clear h0;obtain ⟨c,hc8,hc,hways⟩:=jJA s h1
  rcases hways with ⟨⟨b1,b2⟩,T⟩ | ⟨b1 | ⟨b1,b2⟩,U,T⟩ | ⟨b1 | ⟨b1,b2⟩,U,T⟩ | ⟨n,k,g1,g2,g3,b1,U,T⟩ | ⟨n,k,g1,g2,g3,b1,b2,g4,U,T⟩ | ⟨n,k,g1,g2,g3,b1,b2,g4,U,T⟩ | ⟨n,k,g1,g2,g3,b1,b2,g4,U,T⟩
  · have n1:=kQD b1;have n2:=kQD b2;go_enter Tryz.func216,Tryz.ntmps216;go_wp2_with fail;rw [T.out];exact bodyPost_ret (v:=.tuple #[.agg #[.bool false,.int .i64 0,.string ⟨#[]⟩],.int .i64 0,.int .i64 2]) (by simp [results,Tryz.results216,go_sem]) rfl ⟨rfl,Qj _ (.refl _ _)⟩
  · have n1:=qQq b1;go_enter Tryz.func216,Tryz.ntmps216;go_wp2_with (go_at_call 168;refine (kQH hx U.out _).mono ?_;rintro e w1 ⟨rfl,rfl⟩);rw [T.out];exact bodyPost_ret (v:=.tuple #[.agg #[.bool false,.int .i64 0,.string ⟨#[]⟩],.int .i64 0,.int .i64 2]) (by simp [results,Tryz.results216,go_sem]) rfl ⟨rfl,Qj _ (.refl _ _)⟩
  · have n1:=kQD b1;have n2:=qQq b2;go_enter Tryz.func216,Tryz.ntmps216;go_wp2_with (go_at_call 168;refine (kQH hx U.out _).mono ?_;rintro e w1 ⟨rfl,rfl⟩);rw [T.out];exact bodyPost_ret (v:=.tuple #[.agg #[.bool false,.int .i64 0,.string ⟨#[]⟩],.int .i64 0,.int .i64 2]) (by simp [results,Tryz.results216,go_sem]) rfl ⟨rfl,Qj _ (.refl _ _)⟩
  · have n1:=qQq b1;go_enter Tryz.func216,Tryz.ntmps216;go_wp2_with (go_at_call 168;refine (qQj hx U.out _).mono ?_;rintro e w1 ⟨rfl,rfl⟩);rw [T.out];exact bodyPost_ret (v:=.tuple #[.agg #[.bool false,.int .i64 0,.string ⟨#[]⟩],.int .i64 0,.int .i64 3]) (by simp [results,Tryz.results216,go_sem]) rfl ⟨rfl,Qj _ (.refl _ _)⟩
  · have n1:=kQD b1;have n2:=qQq b2;go_enter Tryz.func216,Tryz.ntmps216;go_wp2_with (go_at_call 168;refine (qQj hx U.out _).mono ?_;rintro e w1 ⟨rfl,rfl⟩);rw [T.out];exact bodyPost_ret (v:=.tuple #[.agg #[.bool false,.int .i64 0,.string ⟨#[]⟩],.int .i64 0,.int .i64 3]) (by simp [results,Tryz.results216,go_sem]) rfl ⟨rfl,Qj _ (.refl _ _)⟩
  · have n1:=qQq b1;go_enter Tryz.func216,Tryz.ntmps216;go_wp2_with (first | (go_at_call 168;refine (jQt hx U.out _).mono ?_;rintro e w1 ⟨rfl,rfl⟩) | (go_at_call 154;refine (xQq _ (by omega) (by omega) _).mono ?_;rintro e w1 ⟨rfl,rfl⟩));rw [T.out];exact bodyPost_ret (v:=.tuple #[.agg #[.bool true,.int .i64 (Kw n),.string ⟨#[]⟩],.int .i64 ((k:Int)+1),.int .i64 0]) (by simp [results,Tryz.results216,go_sem]) rfl ⟨rfl,Qj _ (.refl _ _)⟩
  · have n1:=kQD b1;have n2:=qQq b2;go_enter Tryz.func216,Tryz.ntmps216;go_wp2_with (go_at_call 168;refine (jQt hx U.out _).mono ?_;rintro e w1 ⟨rfl,rfl⟩);rw [T.out];exact bodyPost_ret (v:=.tuple #[.agg #[.bool false,.int .i64 0,.string ⟨#[]⟩],.int .i64 0,.int .i64 2]) (by simp [results,Tryz.results216,go_sem]) rfl ⟨rfl,Qj _ (.refl _ _)⟩
  · have n1:=kQD b1;have n2:=qQq b2;go_enter Tryz.func216,Tryz.ntmps216;go_wp2_with (go_at_call 168;refine (jQt hx U.out _).mono ?_;rintro e w1 ⟨rfl,rfl⟩);rw [T.out];exact bodyPost_ret (v:=.tuple #[.agg #[.bool false,.int .i64 0,.string ⟨#[]⟩],.int .i64 0,.int .i64 3]) (by simp [results,Tryz.results216,go_sem]) rfl ⟨rfl,Qj _ (.refl _ _)⟩
  · have n1:=kQD b1;have n2:=qQq b2;go_enter Tryz.func216,Tryz.ntmps216;go_wp2_with (go_at_call 168;refine (jQt hx U.out _).mono ?_;rintro e w1 ⟨rfl,rfl⟩);rw [T.out];exact bodyPost_ret (v:=.tuple #[.agg #[.bool false,.int .i64 0,.string (s.extract (k+1) (k+1+n))],.int .i64 ((k:Int)+1+n),.int .i64 0]) (by simp [results,Tryz.results216,go_sem]) rfl ⟨rfl,Qj _ (.refl _ _)⟩
theorem vYM (s:ByteArray) (hs:s.size<=1000000000) (w:World) :
  Calls Tryz.prog 148 #[.string s] w fun e w'=>e=.returned (.tuple #[.agg #[.bool (Jp s.data.toList).1.num,.int .i64 (Jp s.data.toList).1.n,.string ⟨(Jp s.data.toList).1.s.toArray⟩],.int .i64 (Jp s.data.toList).2.1,.int .i64 (Jp s.data.toList).2.2])/\Below w.heap.size w w':=by
 by_cases h0:s.size=0
 ·
  have hz:s.toList.isEmpty=true:=by rw [Qp,List.isEmpty_iff,qQ6];exact h0
  have hl:s.data.toList=[]:=(qQ6 s).2 h0;rw [hl];clear h0 hl;go_enter Tryz.func148,Tryz.ntmps148;go_wp2_with fail;exact bodyPost_ret (v:=.tuple #[.agg #[.bool false,.int .i64 0,.string ⟨#[]⟩],.int .i64 0,.int .i64 3]) (by simp [results,Tryz.results148,go_sem]) rfl ⟨rfl,Qj _ (.refl _ _)⟩
 ·
  have hz:s.toList.isEmpty=false:=by
   rw [Qp,Bool.eq_false_iff,ne_eq,List.isEmpty_iff,qQ6];exact h0
  have h1:1<=s.size:=by omega
  have hx:(s.extract 1 s.size).size<=1000000000:=by simp;omega
  clear h0;obtain ⟨c,hc8,hc,hways⟩:=jJA s h1
  rcases hways with ⟨⟨b1,b2⟩,T⟩ | ⟨b1 | ⟨b1,b2⟩,U,T⟩ | ⟨b1 | ⟨b1,b2⟩,U,T⟩ | ⟨n,k,g1,g2,g3,b1,U,T⟩ | ⟨n,k,g1,g2,g3,b1,b2,g4,U,T⟩ | ⟨n,k,g1,g2,g3,b1,b2,g4,U,T⟩ | ⟨n,k,g1,g2,g3,b1,b2,g4,U,T⟩
  · have n1:=kQD b1;have n2:=kQD b2;go_enter Tryz.func148,Tryz.ntmps148;go_wp2_with fail;rw [T.out];exact bodyPost_ret (v:=.tuple #[.agg #[.bool false,.int .i64 0,.string ⟨#[]⟩],.int .i64 0,.int .i64 2]) (by simp [results,Tryz.results148,go_sem, *]) rfl ⟨rfl,by repeat (first | exact Below.refl _ _ | refine Y0 ?_ | refine Qj _ ?_ | refine bset _ (by simp) ?_ | refine Qk (by assumption) ?_)⟩
  · have n1:=qQq b1;go_enter Tryz.func148,Tryz.ntmps148;go_wp2_with (go_at_call 147;refine (kYh hx U.out _).mono ?_;rintro e w1 ⟨rfl,hb1⟩;obtain ⟨hc1,hf1⟩:=Z8 hb1;have hz1:w.heap.size+1<=w1.heap.size:=by have:=hb1.size;simp at this;omega);rw [T.out];exact bodyPost_ret (v:=.tuple #[.agg #[.bool false,.int .i64 0,.string ⟨#[]⟩],.int .i64 0,.int .i64 2]) (by simp [results,Tryz.results148,go_sem, *]) rfl ⟨rfl,by repeat (first | exact Below.refl _ _ | refine Y0 ?_ | refine Qj _ ?_ | refine bset _ (by simp) ?_ | refine Qk (by assumption) ?_)⟩
  · have n1:=kQD b1;have n2:=qQq b2;go_enter Tryz.func148,Tryz.ntmps148;go_wp2_with (go_at_call 147;refine (kYh hx U.out _).mono ?_;rintro e w1 ⟨rfl,hb1⟩;obtain ⟨hc1,hf1⟩:=Z8 hb1;have hz1:w.heap.size+1<=w1.heap.size:=by have:=hb1.size;simp at this;omega);rw [T.out];exact bodyPost_ret (v:=.tuple #[.agg #[.bool false,.int .i64 0,.string ⟨#[]⟩],.int .i64 0,.int .i64 2]) (by simp [results,Tryz.results148,go_sem, *]) rfl ⟨rfl,by repeat (first | exact Below.refl _ _ | refine Y0 ?_ | refine Qj _ ?_ | refine bset _ (by simp) ?_ | refine Qk (by assumption) ?_)⟩
  · have n1:=qQq b1;go_enter Tryz.func148,Tryz.ntmps148;go_wp2_with (go_at_call 147;refine (kYZ hx U.out _).mono ?_;rintro e w1 ⟨rfl,hb1⟩;obtain ⟨hc1,hf1⟩:=Z8 hb1;have hz1:w.heap.size+1<=w1.heap.size:=by have:=hb1.size;simp at this;omega);rw [T.out];exact bodyPost_ret (v:=.tuple #[.agg #[.bool false,.int .i64 0,.string ⟨#[]⟩],.int .i64 0,.int .i64 3]) (by simp [results,Tryz.results148,go_sem, *]) rfl ⟨rfl,by repeat (first | exact Below.refl _ _ | refine Y0 ?_ | refine Qj _ ?_ | refine bset _ (by simp) ?_ | refine Qk (by assumption) ?_)⟩
  · have n1:=kQD b1;have n2:=qQq b2;go_enter Tryz.func148,Tryz.ntmps148;go_wp2_with (go_at_call 147;refine (kYZ hx U.out _).mono ?_;rintro e w1 ⟨rfl,hb1⟩;obtain ⟨hc1,hf1⟩:=Z8 hb1;have hz1:w.heap.size+1<=w1.heap.size:=by have:=hb1.size;simp at this;omega);rw [T.out];exact bodyPost_ret (v:=.tuple #[.agg #[.bool false,.int .i64 0,.string ⟨#[]⟩],.int .i64 0,.int .i64 3]) (by simp [results,Tryz.results148,go_sem, *]) rfl ⟨rfl,by repeat (first | exact Below.refl _ _ | refine Y0 ?_ | refine Qj _ ?_ | refine bset _ (by simp) ?_ | refine Qk (by assumption) ?_)⟩
  · have n1:=qQq b1;go_enter Tryz.func148,Tryz.ntmps148;go_wp2_with (first | (go_at_call 147;refine (kYU hx U.out _).mono ?_;rintro e w1 ⟨rfl,hb1⟩;obtain ⟨hc1,hf1⟩:=Z8 hb1;have hz1:w.heap.size+1<=w1.heap.size:=by have:=hb1.size;simp at this;omega) | (go_at_call 196;refine (zYe _ (by omega) (by omega) _).mono ?_;rintro e w1 ⟨rfl,rfl⟩));rw [T.out,show k+1=1+k by omega];exact bodyPost_ret (v:=.tuple #[.agg #[.bool true,.int .i64 (Kw n),.string ⟨#[]⟩],.int .i64 (1+(k:Int)),.int .i64 0]) (by simp [results,Tryz.results148,go_sem, *]) rfl ⟨rfl,by repeat (first | exact Below.refl _ _ | refine Y0 ?_ | refine Qj _ ?_ | refine bset _ (by simp) ?_ | refine Qk (by assumption) ?_)⟩
  · have n1:=kQD b1;have n2:=qQq b2;go_enter Tryz.func148,Tryz.ntmps148;go_wp2_with (go_at_call 147;refine (kYU hx U.out _).mono ?_;rintro e w1 ⟨rfl,hb1⟩;obtain ⟨hc1,hf1⟩:=Z8 hb1;have hz1:w.heap.size+1<=w1.heap.size:=by have:=hb1.size;simp at this;omega);rw [T.out];exact bodyPost_ret (v:=.tuple #[.agg #[.bool false,.int .i64 0,.string ⟨#[]⟩],.int .i64 0,.int .i64 2]) (by simp [results,Tryz.results148,go_sem, *]) rfl ⟨rfl,by repeat (first | exact Below.refl _ _ | refine Y0 ?_ | refine Qj _ ?_ | refine bset _ (by simp) ?_ | refine Qk (by assumption) ?_)⟩
  · have n1:=kQD b1;have n2:=qQq b2;go_enter Tryz.func148,Tryz.ntmps148;go_wp2_with (go_at_call 147;refine (kYU hx U.out _).mono ?_;rintro e w1 ⟨rfl,hb1⟩;obtain ⟨hc1,hf1⟩:=Z8 hb1;have hz1:w.heap.size+1<=w1.heap.size:=by have:=hb1.size;simp at this;omega);rw [T.out];exact bodyPost_ret (v:=.tuple #[.agg #[.bool false,.int .i64 0,.string ⟨#[]⟩],.int .i64 0,.int .i64 3]) (by simp [results,Tryz.results148,go_sem, *]) rfl ⟨rfl,by repeat (first | exact Below.refl _ _ | refine Y0 ?_ | refine Qj _ ?_ | refine bset _ (by simp) ?_ | refine Qk (by assumption) ?_)⟩
  · have n1:=kQD b1;have n2:=qQq b2;go_enter Tryz.func148,Tryz.ntmps148;go_wp2_with (go_at_call 147;refine (kYU hx U.out _).mono ?_;rintro e w1 ⟨rfl,hb1⟩;obtain ⟨hc1,hf1⟩:=Z8 hb1;have hz1:w.heap.size+1<=w1.heap.size:=by have:=hb1.size;simp at this;omega);rw [T.out,show k+1=1+k by omega];exact bodyPost_ret (v:=.tuple #[.agg #[.bool false,.int .i64 0,.string (s.extract (1+k) (1+k+n))],.int .i64 (1+(k:Int)+n),.int .i64 0]) (by simp [results,Tryz.results148,go_sem, *]) rfl ⟨rfl,by repeat (first | exact Below.refl _ _ | refine Y0 ?_ | refine Qj _ ?_ | refine bset _ (by simp) ?_ | refine Qk (by assumption) ?_)⟩
