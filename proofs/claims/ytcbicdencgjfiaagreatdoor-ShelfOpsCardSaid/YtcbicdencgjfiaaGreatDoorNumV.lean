/- The walks of num and of val.May, val.Order. -/
import Derived.Deep.RegionWith
import Derived.Test.YtcbicdencgjfiaaGreatDoorDraws
import Derived.Test.YtcbicdencgjfiaaGreatDoorFacts
import Derived.Test.YtcbicdencgjfiaaGreatDoorShelf
set_option linter.unusedVariables false
set_option linter.unusedSimpArgs false
namespace Go.Proofs.YtcbicdencgjfiaaGreatDoor
open Go.RowKit Tryst
set_option maxHeartbeats 400000
set_option maxRecDepth 20000
theorem unp_cases (c k:Nat):(128≤c)∨(c < 128∧((c:Int)==0)=true∧0 < k∧Hid ((c=0∧0 < k)∨(k=9∧1 < c)))∨
  (c < 128∧((c:Int)==0)=false∧((k:Int)==9)=true∧1 < c∧Hid ((c=0∧0 < k)∨(k=9∧1 < c)))∨
  (c < 128∧((c:Int)==0)=true∧k≤0∧((k:Int)==9)=false∧Hid (¬ ((c=0∧0 < k)∨(k=9∧1 < c))))∨
  (c < 128∧((c:Int)==0)=false∧((k:Int)==9)=false∧Hid (¬ ((c=0∧0 < k)∨(k=9∧1 < c))))∨
  (c < 128∧((c:Int)==0)=false∧((k:Int)==9)=true∧c≤1∧Hid (¬ ((c=0∧0 < k)∨(k=9∧1 < c)))):=by
 simp only [beq_iff_eq,beq_eq_false_iff_ne,ne_eq,Hid]
 omega
theorem unpack_c (s:ByteArray) (hs:s.size≤1000000000) (w:World) :
  Calls Tryz.prog 168 #[.string s] w fun e w'=>e=.returned (.tuple #[.int .u64 (unp s.data.toList).1,.int .i64 (unp s.data.toList).2.1,.int .i64 (unp s.data.toList).2.2])∧w=w':=by
 go_enter Tryz.func168,Tryz.ntmps168
 by_cases hm:s.size≤10
 all_goals
  go_wp2
  go_loop [5,11] (fun n i=>∃ (k:Nat) (x:Int),k≤s.size∧k≤10∧i=.int .i64 k∧n=.int .u64 x∧UnpRel s.data.toList k x) (fun _ i=>s.size - (intOf i).toNat)
  case atStart=>exact ⟨0,0,by omega,by omega,rfl,rfl,.start _⟩
  case round=>
   obtain ⟨k,x,hk,hk10,rfl,rfl,hu⟩:=hrel
   by_cases hlt:k < s.size∧k < 10
   ·
    obtain ⟨hlt,hlt10⟩:=hlt
    obtain ⟨c,hc⟩:∃ c,s[k].toNat=c:=⟨_,rfl⟩
    have hcl:c < 256:=hc ▸ s[k].toNat_lt
    have A1:=Lib.hid (hu.step (by omega) (by simpa using hlt))
    have A2:=Lib.hid (hu.bad (by omega) (by simpa using hlt))
    have A3:=Lib.hid (hu.done (by omega) (by simpa using hlt))
    have e:s.data.toList[k]'(by simpa using hlt)=s[k]:=rfl
    rw [e,hc] at A1 A2 A3
    clear e hu
    rcases unp_cases c k with h | ⟨h,h0,h1,H⟩ | ⟨h,h0,h1,h2,H⟩ | ⟨h,h0,h1,h2,H⟩ | ⟨h,h0,h1,H⟩ | ⟨h,h0,h1,h2,H⟩
    ·
     go_wp2
     go_round
     case rel=>exact ⟨k+1,_,by omega,by omega,by go_num,rfl,A1.out h⟩
     case measure=>simp [intOf];omega
    ·
     go_wp2;go_ret3;exact ⟨ret_eq (by rw [A2.out h H.out];rfl),rfl⟩
    ·
     go_wp2;go_ret3;exact ⟨ret_eq (by rw [A2.out h H.out];rfl),rfl⟩
    all_goals
     obtain ⟨n,hn,hr⟩:=A3.out h H.out
     have hn':=Lib.hid hn;have hr':=Lib.hid hr
     clear hn hr A3 A1 A2
     go_wp2;go_ret3
     refine ⟨ret_eq ?_,rfl⟩
     rw [hr'.out]
     have:=hn'.out
     first | (rw [this];rfl) | (simp at this ⊢;simp [this])
   ·
    by_cases h10:k < 10
    ·
     have hz:unp s.data.toList=(0,0,3):=hu.short (by simp;omega) (by omega)
     have HZ:=Lib.hid hz
     clear hz
     go_wp2
     all_goals (go_ret3;exact ⟨ret_eq (by rw [HZ.out];rfl),rfl⟩)
    ·
     have hz:unp s.data.toList=(0,0,2):=hu.2 (by omega)
     have HZ:=Lib.hid hz
     clear hz
     go_wp2
     all_goals (go_ret3;exact ⟨ret_eq (by rw [HZ.out];rfl),rfl⟩)
theorem u8T:SliceOf Tryz.prog 77 5 1 1:=.mk' Tryz.underlying77 (z:=.int .u8 0) (by kernel_rfl) rfl (by decide) (by decide)
theorem make10 (w:World):(Instr.makeSlice 77 (.int .i64 0) (.int .i64 10)).run Tryz.prog w=.ok (.slice (some ⟨w.heap.size,0,none⟩) 0 10) (w.alloc (.cells (Array.replicate 10 (.int .u8 0)) 5)):=by kernel_rfl
theorem pack_c (n:Nat) (hn:n≤18446744073709551615) (w:World) :
  Calls Tryz.prog 164 #[.int .u64 n] w fun e w'=>e=.returned (.string ⟨(pack n).toArray⟩)∧Below w.heap.size w w':=by
 have hmk:=make10
 go_enter Tryz.func164,Tryz.ntmps164
 go_wp2
 clear hmk
 have hst:=PackRel.start n (by omega)
 go_loopw [0,3] (fun m v wr=>∃ (q:Nat) (pre:List UInt8),m=.int .u64 q∧q≤18446744073709551615∧PackRel n pre q∧wr.ownsRow w.heap.size 5 1 v pre.length (pre.map byteV)∧Below w.heap.size w wr) (fun m _ _=>(intOf m).toNat)
 case atStart=>exact ⟨n,[],rfl,hn,hst,World.ownsRow_made _ _ _ (Nat.le_refl _) (by decide) rfl,(Below.refl _ _).alloc (Nat.le_refl _) _⟩
 case round=>
  obtain ⟨q,pre,rfl,hq,hr,hown,hb⟩:=hrel
  have hB:=hb.size
  have HR:=Lib.hid hr
  have hlen:pre.length≤9:=hr.1
  clear hr hst
  by_cases h:128≤q
  ·
   have hs:=HR.out.step h
   have HS:=Lib.hid hs
   have e:=or128 q
   have E:=Lib.hid e
   clear hs e
   go_wp2_with (at_builtin;refine wpList_app1 u8T rfl _ _ rfl w.heap.size _ _ _ rfl hown _ _ rfl rfl (by omega) hB ?_;intro v1 w1 hown1 hb1)
   go_roundw
   case rel=>
    rw [E.out] at hown1
    exact ⟨q / 128,_,by go_num,by omega,HS.out.2,by simpa [byteV] using hown1,hb.trans hb1⟩
   case measure=>simp [intOf];omega
  ·
   have hd:=Lib.hid (HR.out.done (by omega))
   have hw8:=Lib.hid (wrap8 q (by omega))
   go_wp2_with (at_builtin;refine wpList_app1 u8T rfl _ _ rfl w.heap.size _ _ _ rfl hown _ _ rfl rfl (by omega) hB ?_;intro v1 w1 hown1 hb1;have hcv:=own_string (P:=Tryz.prog) (l:=pre++[UInt8.ofNat q]) 77 9 Tryz.underlying77 Tryz.underlying5 Tryz.underlying9 (by rw [hw8.out] at hown1;simpa [byteV] using hown1))
   go_ret
   exact ⟨ret_str hd.out.symm,hb.trans hb1⟩
theorem cv1:∀ (w:World) (g c:Nat),(cellNum (w.cell? ⟨g,0,none⟩)).isSome=true→(convert 77 9 (.slice (some ⟨g,0,none⟩) 1 c)).run Tryz.prog w=.ok (.string ⟨[UInt8.ofNat ((cellNum (w.cell? ⟨g,0,none⟩)).getD 0).toNat].toArray⟩) w:=conv1 Tryz.prog 77 5 9 Tryz.underlying77 Tryz.underlying5 Tryz.underlying9
theorem rpack_c (k:Nat) (hk:k≤9):∀ (n:Int) (w:World),0≤n→n≤18446744073709551615→n.toNat < 128 ^ (k+1)→
    Calls Tryz.prog 47 #[.int .u64 n] w fun e w'=>e=.returned (.string ⟨(packF k n.toNat).toArray⟩)∧Below w.heap.size w w':=by
  induction k with
  | zero=>
    intro n w h0 h1 h2
    have h : n < 128 := by have : n.toNat < 128 := by simpa using h2
                           omega
    clear h2
    have hv:=cv1
    have hn:=cellNum_some
    go_enter Tryz.func47,Tryz.ntmps47
    go_wp2_with fail
    go_ret
    exact ⟨rfl,(Below.refl _ _).alloc (Nat.le_refl _) _⟩
  | succ k ih=>
    intro n w h0 h1 h2
    by_cases h:n < 128
    · have hv:=cv1
      have hn:=cellNum_some
      have e:packF (k+1) n.toNat=[UInt8.ofNat n.toNat]:=by rw [packF,if_pos (by omega)]
      have E:=Lib.hid e
      clear ih h2 e
      go_enter Tryz.func47,Tryz.ntmps47
      go_wp2_with fail
      go_ret
      exact ⟨by rw [E.out];rfl,(Below.refl _ _).alloc (Nat.le_refl _) _⟩
    · have hi:(n / 128).toNat < 128 ^ (k+1):=by
        have:n.toNat / 128 < 128 ^ (k+1):=(Nat.div_lt_iff_lt_mul (by decide)).2 (by rw [Nat.pow_succ] at h2;exact h2)
        have e:(n / 128).toNat=n.toNat / 128:=by omega
        omega
      have IH0:(∀ (x:Int) (w:World),x=n / 128→Calls Tryz.prog 47 #[.int .u64 x] w fun e w'=>e=.returned (.string ⟨(packF k (n / 128).toNat).toArray⟩)∧Below w.heap.size w w'):=by
        intro x w hx
        subst hx
        exact ih (by omega) (n / 128) w (by omega) (by omega) hi
      have IH:=Lib.hid IH0
      clear IH0
      clear ih h2 hi
      have hv:=cv1
      have hn:=cellNum_some
      go_enter Tryz.func47,Tryz.ntmps47
      go_wp2_with fail
      have e:packF (k+1) n.toNat=UInt8.ofNat (128+n.toNat % 128) :: packF k (n / 128).toNat:=by
        rw [packF,if_neg (by omega)];congr 2;omega
      have E:=Lib.hid e
      clear e
      go_region_with (go_at_call 47;refine (IH.out _ _ ?hx).mono ?_;(case hx=>rw [IntKind.wrap_u64,Int.tdiv_eq_ediv_of_nonneg h0];omega);rintro e w1 ⟨rfl,hb1⟩;have hc1:=bcell hb1;have hl:(packF k (n / 128).toNat).length≤1000000:=by have:=packF_length k (n / 128).toNat;omega)
      all_goals
        go_wp2
        go_ret
        refine ⟨?_,?_⟩
        · rw [E.out]
          refine ret_eq ?_
          show Value.string _=_
          rw [show (128+n % 128).toNat=128+n.toNat % 128 by omega]
          exact congrArg Value.string (ByteArray.mk_append_mk [_] _)
        · repeat (first | exact Below.refl _ _ | assumption | refine bdrew ?_ | refine balloc _ ?_ | refine bstep (by assumption) ?_)

theorem rpackAll_c (n:Int) (w:World) (h0:0≤n) (h1:n≤18446744073709551615) :
  Calls Tryz.prog 47 #[.int .u64 n] w fun e w'=>e=.returned (.string ⟨(pack n.toNat).toArray⟩)∧Below w.heap.size w w':=
 rpack_c 9 (by omega) n w h0 h1 (Nat.lt_of_lt_of_le (show n.toNat < 2 ^ 64 by omega) (by decide))
theorem packAll_c (n:Int) (w:World) (h0:0≤n) (h1:n≤18446744073709551615) :
  Calls Tryz.prog 164 #[.int .u64 n] w fun e w'=>e=.returned (.string ⟨(pack n.toNat).toArray⟩)∧Below w.heap.size w w':=by
 obtain ⟨m,rfl⟩:=Int.eq_ofNat_of_zero_le h0
 exact pack_c m (by omega) w

theorem fold_c (n:Int) (h0:-9223372036854775808≤n) (h1:n≤9223372036854775807) (w:World) :
  Calls Tryz.prog 138 #[.int .i64 n] w fun e w'=>e=.returned (.int .u64 (fold n:Nat))∧w=w':=by
 go_enter Tryz.func138,Tryz.ntmps138
 by_cases h:0≤n
 all_goals
  go_wp2
  go_ret
  exact ⟨ret_eq (congrArg (Value.int .u64) (by unfold fold;first | (rw [if_pos (by omega)];omega) | (rw [if_neg (by omega)];omega))),rfl⟩
theorem rfold_c (n:Int) (h0:-9223372036854775808≤n) (h1:n≤9223372036854775807) (w:World) :
  Calls Tryz.prog 103 #[.int .i64 n] w fun e w'=>e=.returned (.int .u64 (fold n:Nat))∧w=w':=by
 go_enter Tryz.func103,Tryz.ntmps103
 by_cases h:0≤n
 all_goals
  go_wp2
  go_ret
  exact ⟨ret_eq (congrArg (Value.int .u64) (by unfold fold;first | (rw [if_pos (by omega)];omega) | (rw [if_neg (by omega)];omega))),rfl⟩
theorem and1 (n:Int) (h0:0≤n) (h1:n≤18446744073709551615):bits BinOp.and IntKind.u64 n 1=n % 2:=by
 have:=u64_and n 1 h0 (by omega) (by decide) (by decide)
 rw [this,show (1:Int).toNat=1 from rfl,nat_mask1]
 omega
theorem unfold_c (n:Int) (h0:0≤n) (h1:n≤18446744073709551615) (w:World) :
  Calls Tryz.prog 154 #[.int .u64 n] w fun e w'=>e=.returned (.int .i64 (unfold_ n.toNat))∧w=w':=by
 have ha:=and1 n h0 h1
 go_enter Tryz.func154,Tryz.ntmps154
 by_cases h:n % 2=0
 ·
  have hb:(n % 2==0)=true:=by simpa using h
  have H:=Lib.hid h
  clear h
  go_wp2
  go_ret
  have:=H.out
  exact ⟨ret_eq (congrArg (Value.int .i64) (by unfold unfold_;rw [if_pos (by omega)];omega)),rfl⟩
 ·
  have hb:(n % 2==0)=false:=by simpa using h
  have H:=Lib.hid h
  clear h
  go_wp2
  go_ret
  have:=H.out
  exact ⟨ret_eq (congrArg (Value.int .i64) (by unfold unfold_;rw [if_neg (by omega)];omega)),rfl⟩
end Go.Proofs.YtcbicdencgjfiaaGreatDoor
namespace Go.Proofs.YtcbicdencgjfiaaGreatDoor
open Go.RowKit Tryst
set_option maxHeartbeats 400000
set_option maxRecDepth 20000
def V.mayB (v:V):Bool:=decide v.May
theorem mayB_num (n:Int) (l:List UInt8):V.mayB ⟨true,n,l⟩=l.isEmpty:=by
 unfold V.mayB V.May;cases l<;>simp
theorem mayB_text (n:Int) (l:List UInt8):V.mayB ⟨false,n,l⟩=(decide (n=0)&&decide (l.length≤60)):=by
 unfold V.mayB V.May;simp
theorem may_c (num:Bool) (n:Int) (s:ByteArray) (hs:s.size≤1000000000) (w:World) :
  Calls Tryz.prog 217 #[.agg #[.bool num,.int .i64 n,.string s]] w fun e w'=>e=.returned (.bool (V.mayB ⟨num,n,s.data.toList⟩))∧Below w.heap.size w w':=by
 cases num with
 | true=>
  go_enter Tryz.func217,Tryz.ntmps217
  go_wp2
  go_ret
  exact ⟨ret_bool (by rw [mayB_num,← str_toList]),balloc _ (.refl _ _)⟩
 | false=>
  by_cases h:n=0
  ·
   subst h
   go_enter Tryz.func217,Tryz.ntmps217
   go_wp2
   go_ret
   exact ⟨ret_bool (by rw [mayB_text,len_str];simp;omega),balloc _ (.refl _ _)⟩
  ·
   have hb:(n==0)=false:=by simpa using h
   have H:=Lib.hid h
   clear h
   go_enter Tryz.func217,Tryz.ntmps217
   go_wp2
   go_ret
   exact ⟨ret_bool (by rw [mayB_text];have:=H.out;simp [this]),balloc _ (.refl _ _)⟩
theorem rmay_c (num:Bool) (n:Int) (s:ByteArray) (hs:s.size≤1000000000) (w:World) :
  Calls Tryz.prog 150 #[.agg #[.bool num,.int .i64 n,.string s]] w fun e w'=>e=.returned (.bool (V.mayB ⟨num,n,s.data.toList⟩))∧Below w.heap.size w w':=by
 cases num with
 | true=>
  by_cases h:s.data.toList=[]
  ·
   have hb:s.toList.isEmpty=true:=by rw [str_toList];simpa using h
   have H:=Lib.hid h
   clear h
   go_enter Tryz.func150,Tryz.ntmps150
   go_wp2
   go_ret
   exact ⟨ret_bool (by rw [mayB_num];have:=H.out;cases h:s.data.toList<;>simp_all),balloc _ (.refl _ _)⟩
  ·
   have hb:s.toList.isEmpty=false:=by rw [str_toList];simpa using h
   have H:=Lib.hid h
   clear h
   go_enter Tryz.func150,Tryz.ntmps150
   go_wp2
   go_ret
   exact ⟨ret_bool (by rw [mayB_num];have:=H.out;cases h:s.data.toList<;>simp_all),balloc _ (.refl _ _)⟩
 | false=>
  by_cases h:n=0
  ·
   subst h
   go_enter Tryz.func150,Tryz.ntmps150
   go_wp2
   go_ret
   exact ⟨ret_bool (by rw [mayB_text,len_str];simp;omega),balloc _ (.refl _ _)⟩
  ·
   have hb:(n==0)=false:=by simpa using h
   have H:=Lib.hid h
   clear h
   go_enter Tryz.func150,Tryz.ntmps150
   go_wp2
   go_ret
   exact ⟨ret_bool (by rw [mayB_text];have:=H.out;simp [this]),balloc _ (.refl _ _)⟩

end Go.Proofs.YtcbicdencgjfiaaGreatDoor
namespace Go.Proofs.YtcbicdencgjfiaaGreatDoor
open Go.RowKit Tryst
set_option maxHeartbeats 400000
set_option maxRecDepth 20000
theorem bne_f {x y:Int} (h:(x==y)=false):(x != y)=true:=by rw [bne,h];rfl
theorem bne_t {x y:Int} (h:(x==y)=true):(x != y)=false:=by rw [bne,h];rfl
end Go.Proofs.YtcbicdencgjfiaaGreatDoor
namespace Go.Proofs.YtcbicdencgjfiaaGreatDoor
open Go.RowKit Tryst
set_option maxHeartbeats 400000
set_option maxRecDepth 20000
end Go.Proofs.YtcbicdencgjfiaaGreatDoor
