import Derived.Test.YtcbicdencgjfiaaGreatDoorProg
import Derived.Lib.Builder
import Derived.Lib.OthersKept
import Derived.Lib.OwnKind
import Derived.Lib.AppendStr
import Derived.Lib.BufferKept
import Derived.Laws.Externs
import Derived.Deep.Cut
import Derived.Test.YtcbicdencgjfiaaGreatDoorEvM
import Derived.Test.YtcbicdencgjfiaaGreatDoorGlob5
import Derived.Test.YtcbicdencgjfiaaGreatDoorNumV
set_option linter.all false
set_option maxHeartbeats 400000
set_option maxRecDepth 20000
namespace Go.Proofs.YtcbicdencgjfiaaGreatDoor
open Go.RowKit Tryst
def few (s:ByteArray):ByteArray:=if 70 < s.size then s.extract 0 70 else s
theorem qJC (s:ByteArray):(few s).size<=70:=by
 unfold few;split
 · simp;omega
 · omega
theorem zQv {x:Bool} {n:Int} {s:ByteArray} (hs:s.size<=1000000000) (h:V.May ⟨x,n,s.data.toList⟩) (w:World) :
  Calls Tryz.prog 217 #[.agg #[.bool x,.int .i64 n,.string s]] w fun e w'=>e=.returned (.bool true)/\Below w.heap.size w w':=
 (qQS x n s hs w).mono fun _ _ ⟨h1,h2⟩=>⟨h1.trans (Qq (by unfold V.mayB;simp [h])),h2⟩
theorem xJE {x:Bool} {n:Int} {s:ByteArray} (hs:s.size<=1000000000) (h0:-9223372036854775808<=n) (h1:n<=9223372036854775807) (h:V.May ⟨x,n,s.data.toList⟩) (w:World) :
  Calls Tryz.prog 191 #[.agg #[.bool x,.int .i64 n,.string s]] w fun e w'=>e=.returned (.tuple #[.string ⟨(V.lay ⟨x,n,s.data.toList⟩).toArray⟩,.int .i64 0])/\Below w.heap.size w w':=by
 have H:=Zh h;clear h;have hv:=cv1;have hn:=xQD;have hl1:(pack (fold n)).length<=1500000:=by have:=jQp 9 (fold n);unfold pack;omega
 have hl2:(pack s.size).length<=1500000:=by have:=jQp 9 s.size;unfold pack;omega
 have hf:(fold n:Nat)<=18446744073709551615:=by have:=jQS (n:=n) (by omega) (by omega);omega
 cases x with
 | true=>
  go_enter Tryz.func191,Tryz.ntmps191;go_wp2_with (go_at_call 217;refine (zQv hs H.out _).mono ?_;rintro e w1 ⟨rfl,hb1⟩;obtain ⟨hc1,hf1⟩:=Z8 hb1;have hz1:w.heap.size < w1.heap.size:=by have:=hb1.size;simp at this;omega);refine Tryst2.wp_region_grows [.cells [.int .u8 1],.is (.string ⟨#[1]⟩),.is (.pointer (some ⟨w.heap.size,1,none⟩)),.is (.int .i64 n),.is (.int .u64 (fold n)),.is (.string ⟨(pack (fold n)).toArray⟩),.is (.string (⟨#[1]⟩++⟨(pack (fold n)).toArray⟩))] (by kernel_rfl) (by kernel_rfl) ?obl ?fin
  case obl=>
   simp only [YA,YL,YO,YR,Op.operands,Call.operands]
   repeat' apply And.intro
   any_goals trivial
   all_goals (intro tv w' hg hold hd;(try simp at hold);obtain ⟨hcg,hfg,hsg⟩:=YG hg)
   all_goals first | (go_simp;done) | (go_simp;rw [if_neg (by omega)];exact ⟨.refl _,rfl⟩) | (obtain ⟨⟨g,hvg,hgg,hcell⟩,_⟩:=hd;have hcell0:=hcell 0 (by decide);simp at hcell0;go_simp;done) | (go_simp;go_at_call 138;refine (zJb n (by omega) (by omega) _).mono ?_;rintro e w2 ⟨rfl,rfl⟩;exact ⟨.refl _,rfl⟩) | (go_simp;go_at_call 164;refine (zQM _ _ (by omega) (by omega)).mono ?_;rintro e w2 ⟨rfl,hb2⟩;rw [Int.toNat_natCast];exact ⟨hb2,rfl⟩)
  case fin=>
   intro tv w' hg hR;simp only [YF,YL,YR] at hR;obtain ⟨hcg,hfg,hsg⟩:=YG hg;simp only [YP,YL,Act.put,hR];go_wp2;go_ret2;refine ⟨Yw ?_,?_⟩
   · show Value.tuple #[.string _,.int .i64 0]=_;rw [show V.lay ⟨true,n,s.data.toList⟩=[1]++pack (fold n) from rfl,<- ByteArray.mk_append_mk]
   · (repeat (first | exact Below.refl _ _ | assumption | refine Y0 ?_ | refine Qj _ ?_ | refine bset _ (by simp) ?_ | refine Qk (by assumption) ?_ | refine Grow.below (by assumption) ?_ | refine Tryst2.Grow.below (by assumption) ?_))
 | false=>
  have hw8:IntKind.u64.wrap (s.size:Int)=s.size:=by rw [IntKind.wrap_u64];omega
  go_enter Tryz.func191,Tryz.ntmps191;go_wp2_with (go_at_call 217;refine (zQv hs H.out _).mono ?_;rintro e w1 ⟨rfl,hb1⟩;obtain ⟨hc1,hf1⟩:=Z8 hb1;have hz1:w.heap.size < w1.heap.size:=by have:=hb1.size;simp at this;omega);refine Tryst2.wp_region_grows [.cells [.int .u8 2],.is (.string ⟨#[2]⟩),.is (.pointer (some ⟨w.heap.size,2,none⟩)),.is (.string s),.is (.int .i64 s.size),.is (.int .u64 s.size),.is (.string ⟨(pack s.size).toArray⟩),.is (.string (⟨#[2]⟩++⟨(pack s.size).toArray⟩)),.is (.pointer (some ⟨w.heap.size,2,none⟩)),.is (.string s),.is (.string (⟨#[2]⟩++⟨(pack s.size).toArray⟩++s))] (by kernel_rfl) (by kernel_rfl) ?obl ?fin
  case obl=>
   simp only [YA,YL,YO,YR,Op.operands,Call.operands]
   repeat' apply And.intro
   any_goals trivial
   all_goals (intro tv w' hg hold hd;(try simp at hold);obtain ⟨hcg,hfg,hsg⟩:=YG hg)
   all_goals first | (go_simp;done) | (go_simp;rw [if_neg (by omega)];exact ⟨.refl _,rfl⟩) | (obtain ⟨⟨g,hvg,hgg,hcell⟩,_⟩:=hd;have hcell0:=hcell 0 (by decide);simp at hcell0;go_simp;done) | (go_simp;go_at_call 164;refine (zQM _ _ (by omega) (by omega)).mono ?_;rintro e w2 ⟨rfl,hb2⟩;rw [Int.toNat_natCast];exact ⟨hb2,rfl⟩)
  case fin=>
   intro tv w' hg hR;simp only [YF,YL,YR] at hR;obtain ⟨hcg,hfg,hsg⟩:=YG hg;simp only [YP,YL,Act.put,hR];go_wp2;go_ret2;refine ⟨Yw ?_,?_⟩
   · show Value.tuple #[.string _,.int .i64 0]=_;rw [show V.lay ⟨false,n,s.data.toList⟩=[2]++pack s.data.toList.length++s.data.toList from rfl,<- ByteArray.mk_append_mk,<- ByteArray.mk_append_mk,Qx]
   · (repeat (first | exact Below.refl _ _ | assumption | refine Y0 ?_ | refine Qj _ ?_ | refine bset _ (by simp) ?_ | refine Qk (by assumption) ?_ | refine Grow.below (by assumption) ?_ | refine Tryst2.Grow.below (by assumption) ?_))
def Tab (w : World) : Prop := Lib.TabIs Tryz.prog w "internal/strconv.uint64pow10" .u64 Lib.pow10Tab /\ 1 < w.heap.size
theorem Tab.grow {w w':World} (h:Tab w) (hb:Below w.heap.size w w'):Tab w':=
 ⟨var?_below hb (g:=1) (by kernel_rfl) h.2 h.1,Nat.lt_of_lt_of_le h.2 hb.size⟩
theorem xQa (n:Int) (h0:-9223372036854775808<=n) (h1:n<=9223372036854775807) (w:World) (hT:Tab w) :
  Calls Tryz.prog 244 #[.int .i64 n,.int .i64 10] w fun e w'=>e=.returned (.string ⟨(Lib.itoa n).toArray⟩)/\Below w.heap.size w w':=
 (Tryz.strconv_FormatInt_10 n h0 h1 w hT.1).mono fun e w' ⟨he,k,os,hw⟩=>⟨he,by
  subst hw
  exact ⟨rfl,rfl,rfl,by simp [Go.Sort.grow],fun i hi=>by
   show ((w.drewN k).heap++os)[i]?=_;exact (Array.getElem?_append_left (xs:=(w.drewN k).heap) hi).trans rfl⟩⟩
theorem vQV {l:List UInt8} {k:Nat} (h:k < l.length):esc (l.take (k+1))=esc (l.take k)++esc1 l[k]:=by
 rw [List.take_succ_eq_append_getElem h,vJU]
theorem xQP (l:List UInt8) (k:Nat):(esc (l.take k)).length<=2*l.length:=by
 have h1:=vQG (l.take k);have h2:(l.take k).length<=l.length:=by simp;omega
 omega
theorem vJY (s:ByteArray) (k:Nat) (hlt:k < s.size) (c:Nat) (hc:s[k].toNat=c):(((c:Int)==34)=true/\Hid (esc1 s[k]=[92,s[k]]))∨(((c:Int)==34)=false/\((c:Int)==92)=true/\Hid (esc1 s[k]=[92,s[k]]))∨(((c:Int)==34)=false/\((c:Int)==92)=false/\Hid (esc1 s[k]=[s[k]])):=by
 have e34:s[k]=34↔c=34:=⟨fun h=>by rw [<- hc,h];rfl,fun h=>UInt8.toNat.inj (by rw [hc,h];rfl)⟩;have e92:s[k]=92↔c=92:=⟨fun h=>by rw [<- hc,h];rfl,fun h=>UInt8.toNat.inj (by rw [hc,h];rfl)⟩;unfold Hid esc1
 by_cases h1:c=34
 · left;subst h1;exact ⟨rfl,by rw [if_pos (.inl (e34.2 rfl))]⟩
 ·
  have h1':((c:Int)==34)=false:=by simp;omega
  by_cases h2:c=92
  · right;left;subst h2;exact ⟨rfl,rfl,by rw [if_pos (.inr (e92.2 rfl))]⟩
  ·
   right;right
   exact ⟨h1',by simp;omega,by rw [if_neg (fun h=>h.elim (fun h=>h1 (e34.1 h)) (fun h=>h2 (e92.1 h)))]⟩
theorem vQi {x:Bool} {n:Int} {s:ByteArray} (hs:s.size<=1500000) (h0:-9223372036854775808<=n) (h1:n<=9223372036854775807) (h:V.May ⟨x,n,s.data.toList⟩) (w:World) (hT:Tab w) :
  Calls Tryz.prog 230 #[.agg #[.bool x,.int .i64 n,.string s]] w fun e w'=>e=.returned (.tuple #[.string ⟨(V.write ⟨x,n,s.data.toList⟩).toArray⟩,.int .i64 0])/\Below w.heap.size w w':=by
 have H:=Zh h;clear h;have HT:=Zh hT;clear hT;cases x with
 | true=>
  go_enter Tryz.func230,Tryz.ntmps230;go_wp2_with (first | (go_at_call 217;refine (zQv (by omega) H.out _).mono ?_;rintro e w1 ⟨rfl,hb1⟩;obtain ⟨hc1,hf1⟩:=Z8 hb1;have hz1:w.heap.size < w1.heap.size:=by have:=hb1.size;simp at this;omega) | (go_at_call 244;refine (xQa n h0 h1 _ (HT.out.grow (Qk hb1 (Qj _ (.refl _ _))))).mono ?_;rintro e w2 ⟨rfl,hb2⟩));go_ret2;refine ⟨rfl,?_⟩
  (repeat (first | exact Below.refl _ _ | assumption | refine Y0 ?_ | refine Qj _ ?_ | refine bset _ (by simp) ?_ | refine Qk (by assumption) ?_ | refine Grow.below (by assumption) ?_ | refine Tryst2.Grow.below (by assumption) ?_))
 | false=>
  go_enter Tryz.func230,Tryz.ntmps230;go_wp2_with (go_at_call 217;refine (zQv (by omega) H.out _).mono ?_;rintro e w1 ⟨rfl,hb1⟩;obtain ⟨hc1,hf1⟩:=Z8 hb1;have hz1:w.heap.size < w1.heap.size:=by have:=hb1.size;simp at this;omega);have hp1:w1.cell? ⟨w.heap.size,0,none⟩=some (.bool false):=by rw [hc1 _ _ (by simp)];simp
  have hp2:w1.cell? ⟨w.heap.size,2,none⟩=some (.string s):=by rw [hc1 _ _ (by simp)];simp
  clear hc1 hf1;go_loopw [4,18] (fun v i wr=>∃ (k:Nat),k<=s.size/\i=.int .i64 k/\wr.ownsRow (w.heap.size+1) 5 1 v (34 :: esc (s.data.toList.take k)).length ((34 :: esc (s.data.toList.take k)).map qQI)/\Below (w.heap.size+1) w1 wr) (fun _ i _=>s.size - (intOf i).toNat)
  case atStart=>exact ⟨0,by omega,rfl,World.ownsRow_lit w1 _ 1 (by omega) (by decide) rfl,(Below.refl _ _).alloc (by omega) _⟩
  case round=>
   obtain ⟨k,hk,rfl,hown,hb⟩:=hrel;have hcs:wr.cell? ⟨w.heap.size,2,none⟩=some (.string s):=(hb.cell (p:=⟨w.heap.size,2,none⟩) (by simp)).trans hp2;have hB:w.heap.size+1<=wr.heap.size:=by have:=hb.size;omega
   have hB2:w.heap.size < wr.heap.size:=by omega
   have hlen:(34 :: esc (s.data.toList.take k)).length<=10000000:=by
    have:=xQP s.data.toList k;rw [Qx] at this;simp only [List.length_cons];omega
   by_cases hlt:k < s.size
   ·
    obtain ⟨c,hc⟩:∃ c,s[k].toNat=c:=⟨_,rfl⟩;have hcl:c < 256:=hc ▸ s[k].toNat_lt;have hte:esc (s.data.toList.take (k+1))=esc (s.data.toList.take k)++esc1 s[k]:=vQV (by simpa using hlt);have HE:=Zh hte;have hcb:qQI s[k]=.int .u8 c:=by unfold qQI;rw [hc]
    have HC:=Zh hcb;clear hte hcb;have D:=vJY s k hlt c hc
    rcases D with ⟨b1,E⟩ | ⟨b1,b2,E⟩ | ⟨b1,b2,E⟩
    iterate 2
     ·
      go_wp2_with (first | (at_builtin;refine Xw u8T rfl _ _ rfl (w.heap.size+1) _ _ _ rfl hown _ _ rfl rfl (by omega) hB ?_;intro v1 w2 hown1 hb2;clear hown;have hcs2:w2.cell? ⟨w.heap.size,2,none⟩=some (.string s):=(hb2.cell (p:=⟨w.heap.size,2,none⟩) (by simp)).trans hcs;have hB3:w.heap.size+1<=w2.heap.size:=by have:=hb2.size;omega) | (at_builtin;refine Xw u8T rfl _ _ rfl (w.heap.size+1) _ _ _ rfl hown1 _ _ rfl rfl (by omega) hB3 ?_;intro v2 w3 hown2 hb3));go_roundw
      case rel=>
       refine ⟨k+1,by omega,by go_num,?_,hb.trans (hb2.trans hb3)⟩;have e:34 :: esc (s.data.toList.take (k+1))=(34 :: esc (s.data.toList.take k))++[92,s[k]]:=by rw [HE.out,E.out];rfl
       rw [e,List.length_append,List.map_append];have e2:[92,s[k]].map qQI=[.int .u8 92]++[.int .u8 c]:=by rw [List.map_cons,List.map_cons,HC.out];rfl
       rw [e2,<- List.append_assoc];exact hown2
      case measure=>simp [intOf]<;>omega
    ·
     go_wp2_with (at_builtin;refine Xw u8T rfl _ _ rfl (w.heap.size+1) _ _ _ rfl hown _ _ rfl rfl (by omega) hB ?_;intro v1 w2 hown1 hb2);go_roundw
     case rel=>
      refine ⟨k+1,by omega,by go_num,?_,hb.trans hb2⟩;have e:34 :: esc (s.data.toList.take (k+1))=(34 :: esc (s.data.toList.take k))++[s[k]]:=by rw [HE.out,E.out];rfl
      rw [e,List.length_append,List.map_append];have e2:[s[k]].map qQI=[.int .u8 c]:=by rw [List.map_cons,HC.out];rfl
      rw [e2];exact hown1
     case measure=>simp [intOf]<;>omega
   ·
    have hke:k=s.data.toList.length:=by simp;omega
    have e:34 :: esc (s.data.toList.take k)++[34]=Tryst.wr s.data.toList:=by rw [hke,List.take_length];rfl
    have E:=Zh e;clear e hke;go_wp2_with (at_builtin;refine Xw u8T rfl _ _ rfl (w.heap.size+1) _ _ _ rfl hown _ _ rfl rfl (by omega) hB ?_;intro v1 w2 hown1 hb2;have hcv:=kQj (P:=Tryz.prog) (l:=34 :: esc (s.data.toList.take k)++[34]) 77 9 Tryz.underlying77 Tryz.underlying5 Tryz.underlying9 (by rw [List.map_append];exact hown1));go_ret2;refine ⟨Yw ?_,(Qk hb1 (Qj _ (.refl _ _))).trans ((hb.trans hb2).mono (by omega))⟩;show Value.tuple #[.string ⟨(34 :: esc (s.data.toList.take k)++[34]).toArray⟩,.int .i64 0]=_;rw [E.out];rfl
end Go.Proofs.YtcbicdencgjfiaaGreatDoor
namespace Go.Proofs.YtcbicdencgjfiaaGreatDoor
open Go.RowKit Tryst
theorem _root_.Tryst.mk_size (l:List UInt8):(ByteArray.mk l.toArray).size=l.length:=rfl
theorem infoByte:(Tryz.prog.info? 5).map (fun i=>(i.zero,i.size,i.bytes))=some (some (.int .u8 0),1,1):=by kernel_rfl
theorem qJz:(Tryz.prog.info? 79).map (·.size)=some 2:=by kernel_rfl
structure BT (T:TypeId):Prop where
 lies:liesAt Tryz.prog Tryz.prog.depth T (2 / Tryz.prog.cellsOf T) 0 79 1=true
 ne:T≠5
theorem btB:BT 79:=⟨by kernel_rfl,by decide⟩
def BldT (T:TypeId) (w:World) (B b:Nat) (l:List UInt8):Prop:=Lib.IsBuilder T 5 B b (Lib.byteCells l) w
def Kept (b:Nat) (w w':World):Prop:=Lib.OthersKept 5 (some b) w w'
theorem qJX (b:Nat) (w:World) (h0:w.cell? ⟨b,0,none⟩=some (.pointer (some ⟨b,0,none⟩))) :
  Calls Tryz.prog 201 #[.pointer (some ⟨b,0,none⟩)] w fun e w'=>e=.returned (.tuple #[])/\w'=w:=by
 obtain ⟨j,hj,_⟩:=Option.map_eq_some_iff.1 qJz;go_enter Tryz.func201,Tryz.ntmps201;go_wp2;rw [Lib.run_neq_ptr_same w _ Tryz.underlying76 hj];go_wp2;go_end0;exact ⟨rfl,rfl⟩
theorem jJ0 (b:Nat) (w:World) (h0:w.cell? ⟨b,0,none⟩=some (.pointer none)) {T:TypeId} (H:BT T) (hsh:w.shape? b=some (T,2)) (hfz:w.frozen? ⟨b,0,none⟩=false) :
  Calls Tryz.prog 201 #[.pointer (some ⟨b,0,none⟩)] w fun e w'=>e=.returned (.tuple #[])/\w'=w.setCell ⟨b,0,none⟩ (.pointer (some ⟨b,0,none⟩)):=by
 obtain ⟨j,hj,hjs⟩:=Option.map_eq_some_iff.1 qJz;go_enter Tryz.func201,Tryz.ntmps201;go_wp2;rw [Lib.run_to_unsafe w ⟨b,0,none⟩ Tryz.underlying76 Tryz.underlying288 hj (by rw [hjs];decide) hsh (Nat.zero_lt_succ 1)];simp only [Result.andThen];rw [Oper.upon_value];go_wp2;rw [run_callFunc_extern Tryz.func218 (by kernel_rfl) (by kernel_rfl) (by kernel_rfl) (e:=Extern.AbiNoEscape.same) (by kernel_rfl)];rw [Lib.run_noEscape];simp only [Result.andThen];rw [Oper.upon_value];go_wp2;rw [Lib.run_from_unsafe w ⟨b,0,none⟩ Tryz.underlying288 Tryz.underlying76 hj hsh H.lies];simp only [Result.andThen];rw [Oper.upon_value];go_wp2;go_end0;exact ⟨rfl,rfl⟩
theorem qJg {T:TypeId} (H:BT T) (B b:Nat) (bs:List Value) (w:World) (h:Lib.IsBuilder T 5 B b bs w) :
  Calls Tryz.prog 201 #[.pointer (some ⟨b,0,none⟩)] w fun e w'=>e=.returned (.tuple #[])/\Lib.BuilderAt T 5 B b (.pointer (some ⟨b,0,none⟩)) bs w'/\Below B w w'/\Kept b w w':=by
 rcases h with h | h
 · refine (jJ0 b w h.cell0 H h.shape h.frozen0).mono ?_;rintro e w' ⟨rfl,rfl⟩;exact ⟨rfl,h.used _,(Below.refl B w).setCell (p:=⟨b,0,none⟩) h.1 _,by unfold Kept;exact (Lib.OthersKept.refl 5 (some b) w).setCell ⟨b,0,none⟩ rfl _⟩
 · refine (qJX b w h.cell0).mono ?_;rintro e w' ⟨rfl,rfl⟩;exact ⟨rfl,h,Below.refl B _,Lib.OthersKept.refl _ _ _⟩
theorem kJg (s:ByteArray):Lib.strCells s=Lib.byteCells s.data.toList:=by
 simp [Lib.strCells,Lib.byteCells]
set_option maxHeartbeats 2000000 in
theorem zQ3 {T:TypeId} (H:BT T) (B b:Nat) (l:List UInt8) (s:ByteArray) (w:World) (h:BldT T w B b l) (hl:l.length<=1000000000) (hs:s.size<=1000000000) (hBw:B<=w.heap.size) :
  Calls Tryz.prog 162 #[.pointer (some ⟨b,0,none⟩),.string s] w fun e w'=>e=.returned (.tuple #[.int .i64 s.size,.nilIface])/\BldT T w' B b (l++s.data.toList)/\Below B w w'/\Kept b w w':=by
 obtain ⟨i0,hi,hz0,hz1,hz2⟩:=info_parts infoByte;have HB0:=Zh h;clear h;go_enter Tryz.func162,Tryz.ntmps162;go_wp2_with fail;refine (qJg H B b _ _ HB0.out).mono ?_;rintro e w1 ⟨rfl,h1,hb1,hk1⟩;obtain ⟨hB,v,hbk,hown,hne⟩:=h1;have c0:w1.cell? ⟨b,0,none⟩=some (.pointer (some ⟨b,0,none⟩)):=by rw [Lib.cell_of_heap hbk];rfl
 have c1:w1.cell? ⟨b,1,none⟩=some v:=by rw [Lib.cell_of_heap hbk];rfl
 have hle:(Lib.byteCells l).length<=1000000000:=by simp [Lib.byteCells];omega
 go_wp2_with (at_builtin;refine Lib.wpList_append_own_string _ rfl _ _ 77 9 rfl B 5 i0 Tryz.underlying77 Tryz.underlying9 hi hz0 hz1 hz2 _ _ _ rfl hown s rfl ?c3 ?c4 ?c5 ?_)
 case c3=>unfold maxLen;omega
 case c4=>omega
 case c5=>have:=hb1.size;omega
 intro v' w2 hown' hgrow _
 have hlt:b < w1.heap.size:=by
  rcases Nat.lt_or_ge b w1.heap.size with h' | h'
  · exact h'
  · simp [Array.getElem?_eq_none h'] at hbk
 have hb2:w2.heap[b]?=some (.cells #[.pointer (some ⟨b,0,none⟩),v] T (0,0)):=by
  rw [hgrow.block b hlt (fun e=>hne e.symm)];exact hbk
 have d0:w2.cell? ⟨b,0,none⟩=some (.pointer (some ⟨b,0,none⟩)):=by rw [Lib.cell_of_heap hb2];rfl
 have d1:w2.cell? ⟨b,1,none⟩=some v:=by rw [Lib.cell_of_heap hb2];rfl
 have f1:w2.frozen? ⟨b,1,none⟩=false:=Lib.frozen_of_heap hb2 1
 obtain ⟨ao,n',cap,rfl⟩:∃ ao n' cap,v'=.slice ao n' cap:=by
  rcases hown'.2 with ⟨hv,_⟩ | ⟨g,cap,cur,hv,_⟩
  · exact ⟨_,_,_,hv⟩
  · exact ⟨_,_,_,hv⟩
 go_wp2;go_ret2;refine ⟨rfl,.inr ?_,?_,by unfold Kept at hk1 ⊢;exact (hk1.grown hgrow (Lib.ownsRow_kind hown)).setCell ⟨b,1,none⟩ rfl _⟩
 ·
  refine Lib.BuilderAt.put (T:=T) (e:=5) hB hb2 (bs':=Lib.byteCells (l++s.data.toList)) ?_ H.ne;rw [kJg] at hown'
  simpa [Lib.byteCells] using hown'
 · exact (hb1.grown hgrow (by have:=hb1.size;omega) (fun k hk=>(hown.lt k hk).1)).setCell (p:=⟨b,1,none⟩) hB _
theorem BldT.grow {T:TypeId} {w w':World} {B b:Nat} {l:List UInt8} (h:BldT T w B b l) (hb:Below w.heap.size w w'):BldT T w' B b l:=by
 have key:∀ {p:Value} {bs:List Value},Lib.BuilderAt T 5 B b p bs w->Lib.BuilderAt T 5 B b p bs w':=by
  intro p bs h;have hlt:=h.lt;obtain ⟨hB,v,hv,hown,hne⟩:=h;exact ⟨hB,v,(hb.block b hlt).trans hv,kQr hown hb,hne⟩
 rcases h with h | h
 · exact .inl (key h)
 · exact .inr (key h)
theorem BldT.lt {T:TypeId} {w:World} {B b:Nat} {l:List UInt8} (h:BldT T w B b l):B<=b/\b < w.heap.size:=by
 rcases h with h | h
 · exact ⟨h.1,h.lt⟩
 · exact ⟨h.1,h.lt⟩
theorem Kept.refl (b:Nat) (w:World):Kept b w w:=Lib.OthersKept.refl _ _ _
theorem Kept.trans {b:Nat} {u v w:World} (h:Kept b u v) (k:Kept b v w):Kept b u w:=Lib.OthersKept.trans h k
theorem Kept.below {b:Nat} {v w:World} (h:Below v.heap.size v w):Kept b v w:=Lib.OthersKept.below (Lib.OthersKept.refl _ _ _) h
theorem Kept.box {b g:Nat} {v w:World} {cs:Array Value} {T:TypeId} (h:Kept b v w) (hg:v.heap[g]?=some (.cells cs T (0,0))) (hgb:g≠b) (hT:T≠5):w.heap[g]?=some (.cells cs T (0,0)):=
 h g _ hg (by simpa using hgb) (fun c fz e=>hT (by injection e))
end Go.Proofs.YtcbicdencgjfiaaGreatDoor
namespace Go.Proofs.YtcbicdencgjfiaaGreatDoor
open Go.RowKit Tryst
def Q7 (s:ByteArray):ByteArray:=if 60 < s.size then s.extract 0 60 else s
theorem Z7 (s:ByteArray):(Q7 s).size<=60:=by
 unfold Q7;split
 · simp;omega
 · omega
theorem jQn (s:ByteArray) (hs:s.size<=9223372036854775807) (w:World) :
  Calls Tryz.prog 30 #[.string s] w fun e w'=>e=.returned (.string (Q7 s))/\w=w':=by
 by_cases h:60 < s.size
 all_goals
  go_enter Tryz.func30,Tryz.ntmps30;go_wp2
  first | rw [show Q7 s=s.extract 0 60 by unfold Q7;rw [if_pos (by omega)]] | rw [show Q7 s=s by unfold Q7;rw [if_neg (by omega)]]
  go_ret;exact ⟨rfl,rfl⟩
theorem vJo (x:Bool) (n:Int) (s:ByteArray) (hs:s.size<=9223372036854775807) (w:World) :
  Calls Tryz.prog 66 #[.agg #[.bool x,.int .i64 n,.string s]] w fun e w'=>e=.returned (.agg #[.bool x,.int .i64 n,.string (few s)])/\Below w.heap.size w w':=by
 by_cases h:70 < s.size
 all_goals
  go_enter Tryz.func66,Tryz.ntmps66;go_wp2
  first | rw [show few s=s.extract 0 70 by unfold few;rw [if_pos (by omega)]] | rw [show few s=s by unfold few;rw [if_neg (by omega)]]
  exact bodyPost_ret (v:=.agg #[.bool x,.int .i64 n,.string _]) (by simp [results,Tryz.results66,go_sem, *]) rfl ⟨rfl,by repeat (first | exact Below.refl _ _ | refine Y0 ?_ | refine Qj _ ?_ | refine bset _ (by simp) ?_ | refine Qk (by assumption) ?_)⟩
end Go.Proofs.YtcbicdencgjfiaaGreatDoor
namespace Go.Proofs.YtcbicdencgjfiaaGreatDoor
open Go.RowKit Tryst
theorem _root_.Tryst.FOwn.empty (e:TypeId) (w:World) (base:Nat) (h:base<=w.heap.size):FOwn e (w.alloc (.cells #[] e)) base (.slice (some ⟨w.heap.size,0,none⟩) 0 0) []:=by
 refine ⟨rfl,.inr ⟨w.heap.size,0,#[],rfl,h,?_,Nat.le_refl _,by unfold maxLen;omega,rfl,rfl⟩⟩;show (w.heap.push _)[w.heap.size]?=_;simp
theorem cells_one (l:List FB):∀ u∈l.flatMap FB.cells,u.oneCell'=true:=by
 intro u hu;obtain ⟨f,_,hf⟩:=List.mem_flatMap.1 hu;simp [FB.cells] at hf
 rcases hf with rfl | rfl | rfl | rfl<;>rfl
end Go.Proofs.YtcbicdencgjfiaaGreatDoor
namespace Go.Proofs.YtcbicdencgjfiaaGreatDoor
open Go.RowKit Tryst
abbrev Bld (w:World) (B b:Nat) (l:List UInt8):Prop:=BldT 79 w B b l
theorem Zf (B b:Nat) (l:List UInt8) (s:ByteArray) (w:World) (h:Bld w B b l) (hl:l.length<=1000000000) (hs:s.size<=1000000000) (hBw:B<=w.heap.size) :
  Calls Tryz.prog 162 #[.pointer (some ⟨b,0,none⟩),.string s] w fun e w'=>e=.returned (.tuple #[.int .i64 s.size,.nilIface])/\Bld w' B b (l++s.data.toList)/\Below B w w'/\Kept b w w':=zQ3 btB B b l s w h hl hs hBw
theorem Bld.grow {w w':World} {B b:Nat} {l:List UInt8} (h:Bld w B b l) (hb:Below w.heap.size w w'):Bld w' B b l:=BldT.grow h hb
theorem Bld.lt {w:World} {B b:Nat} {l:List UInt8} (h:Bld w B b l):B<=b/\b < w.heap.size:=BldT.lt h
def evE (t p:ByteArray) (q:Int) (l:List FB):Ev:=⟨t.data.toList,p.data.toList,q.toNat,l.map FB.fld⟩
theorem xQl (t p:ByteArray) (q:Int) (l:List FB) (h0:0<=q):jQA t p q l=(evE t p q l).may:=by
 unfold jQA evE Ev.may;simp only [List.length_map]
 congr 3
 by_cases h:1<=q
 · rw [decide_eq_true h,decide_eq_true (by omega)]
 · rw [decide_eq_false h,decide_eq_false (by omega)]
def headL (t p:ByteArray) (q:Int) (n:Nat):List UInt8:=jQM t.data.toList++jQM p.data.toList++pack q.toNat++pack n
