import Derived.Test.YtcbicdencgjfiaaGreatDoorNumV
set_option linter.all false
set_option maxHeartbeats 400000
set_option maxRecDepth 20000
namespace Go.Proofs.YtcbicdencgjfiaaGreatDoor
open Go.RowKit Tryst
def few (s:ByteArray):ByteArray:=if 70 < s.size then s.extract 0 70 else s
theorem zQv {x:Bool} {n:Int} {s:ByteArray} (hs:s.size<=1000000000) (h:V.May ⟨x,n,s.data.toList⟩) (w:World) :
  Calls Tryz.prog 217 #[.agg #[.bool x,.int .i64 n,.string s]] w fun e w'=>e=.returned (.bool true)/\Below w.heap.size w w':=
 (qQS x n s hs w).mono fun _ _ ⟨h1,h2⟩=>⟨h1.trans (Qq (by unfold V.mayB;simp [h])),h2⟩
theorem vYb {x:Bool} {n:Int} {s:ByteArray} (hs:s.size<=1000000000) (h0:-9223372036854775808<=n) (h1:n<=9223372036854775807) (w:World) :
  Calls Tryz.prog 104 #[.agg #[.bool x,.int .i64 n,.string s]] w fun e w'=>e=.returned (.string ⟨(V.lay ⟨x,n,s.data.toList⟩).toArray⟩)/\Below w.heap.size w w':=by
 have hl1:(pack (fold n)).length<=1500000:=by have:=jQp 9 (fold n);unfold pack;omega
 have hl2:(pack s.size).length<=1500000:=by have:=jQp 9 s.size;unfold pack;omega
 have hf:(fold n:Nat)<=18446744073709551615:=by have:=jQS (n:=n) (by omega) (by omega);omega
 cases x with
 | true=>
  go_enter Tryz.func104,Tryz.ntmps104;go_wp2_with (first | (go_at_call 103;refine (zYO n (by omega) (by omega) _).mono ?_;rintro e w2 ⟨rfl,rfl⟩) | (go_at_call 47;refine (Y4 _ _ (by omega) (by omega)).mono ?_;rintro e w2 ⟨rfl,hb2⟩;rw [Int.toNat_natCast]));go_ret;refine ⟨Yw ?_,?_⟩
  · show Value.string _=_;rw [show V.lay ⟨true,n,s.data.toList⟩=[1]++pack (fold n) from rfl,<- ByteArray.mk_append_mk]
  · (repeat (first | exact Below.refl _ _ | assumption | refine Y0 ?_ | refine Qj _ ?_ | refine bset _ (by simp) ?_ | refine Qk (by assumption) ?_ | refine Grow.below (by assumption) ?_ | refine Tryst2.Grow.below (by assumption) ?_))
 | false=>
  have hw8:IntKind.u64.wrap (s.size:Int)=s.size:=by rw [IntKind.wrap_u64];omega
  go_enter Tryz.func104,Tryz.ntmps104;go_wp2_with fail;refine Tryst2.wp_region_grows [.is (.pointer (some ⟨w.heap.size,2,none⟩)),.is (.string s),.is (.int .i64 s.size),.is (.int .u64 s.size),.is (.string ⟨(pack s.size).toArray⟩),.is (.string (⟨#[2]⟩++⟨(pack s.size).toArray⟩)),.is (.pointer (some ⟨w.heap.size,2,none⟩)),.is (.string s),.is (.string (⟨#[2]⟩++⟨(pack s.size).toArray⟩++s))] (by kernel_rfl) (by kernel_rfl) ?obl ?fin
  case obl=>
   simp only [YA,YL,YO,YR,Op.operands,Call.operands]
   repeat' apply And.intro
   any_goals trivial
   all_goals (intro tv w' hg hold hd;(try simp at hold);obtain ⟨hcg,hfg,hsg⟩:=YG hg)
   all_goals first | (go_simp;done) | (go_simp;rw [if_neg (by omega)];exact ⟨.refl _,rfl⟩) | (obtain ⟨⟨g,hvg,hgg,hcell⟩,_⟩:=hd;have hcell0:=hcell 0 (by decide);simp at hcell0;go_simp;done) | (go_simp;go_at_call 47;refine (Y4 _ _ (by omega) (by omega)).mono ?_;rintro e w2 ⟨rfl,hb2⟩;rw [Int.toNat_natCast];exact ⟨hb2,rfl⟩)
  case fin=>
   intro tv w' hg hR;simp only [YF,YL,YR] at hR;obtain ⟨hcg,hfg,hsg⟩:=YG hg;simp only [YP,YL,Act.put,hR];go_wp2;go_ret;refine ⟨Yw ?_,?_⟩
   · show Value.string _=_;rw [show V.lay ⟨false,n,s.data.toList⟩=[2]++pack s.data.toList.length++s.data.toList from rfl,<- ByteArray.mk_append_mk,<- ByteArray.mk_append_mk,Qx]
   · (repeat (first | exact Below.refl _ _ | assumption | refine Y0 ?_ | refine Qj _ ?_ | refine bset _ (by simp) ?_ | refine Qk (by assumption) ?_ | refine Grow.below (by assumption) ?_ | refine Tryst2.Grow.below (by assumption) ?_))
def kYg:Value->Value->Nat
 | .string b,.int _ q=>q.natAbs*2+(if b.size=0 then 1 else 0)
 | _,_=>0
theorem vYk (c:UInt8) (l:List UInt8) (k:IntKind) (q:Int):kYg (.string ((⟨#[c]⟩:ByteArray)++⟨l.toArray⟩)) (.int k q)=q.natAbs*2:=by
 have:((⟨#[c]⟩:ByteArray)++⟨l.toArray⟩).size≠0:=by rw [<- Qx,qJl];simp
 simp only [kYg,this,if_false,Nat.add_zero]
theorem kYb (b:ByteArray) (k:IntKind) (q:Int):q.natAbs*2<=kYg (.string b) (.int k q):=by
 simp only [kYg];omega
theorem zYY (n:Int) (h0:-9223372036854775808<=n) (h1:n<=9223372036854775807) (w:World) :
  Calls Tryz.prog 204 #[.int .i64 n] w fun e w'=>e=.returned (.string ⟨(Lib.itoa n).toArray⟩)/\Below w.heap.size w w':=by
 have hv:=cv1;have hn:=xQD;go_enter Tryz.func204,Tryz.ntmps204;go_wp2;go_loopw [3,4] (fun s m wr=>∃ (l:List UInt8) (q:Int),s=.string ⟨l.toArray⟩/\m=.int .i64 q/\-9223372036854775808<=q/\q<=9223372036854775807/\l.length<=100/\Hid (qQm n q l)/\Below w.heap.size w wr) (fun s m _=>kYg s m)
 case atStart=>exact ⟨[],n,rfl,rfl,h0,h1,by simp,qQm.start n,.refl _ _⟩
 case round=>
  obtain ⟨l,q,rfl,rfl,q0,q1,hl,hr,hb⟩:=hrel;have hB:=hb.size
  by_cases hz:q=0/\l≠[]
  ·
   obtain ⟨rfl,hl0⟩:=hz;have hle:l.isEmpty=false:=by simpa using hl0
   have hd:=Zh (hr.out.done hl0);clear hl0
   by_cases hs:n < 0
   ·
    have hi:Lib.itoa n=[45]++l:=by unfold Lib.itoa;rw [if_pos hs,hd.out];rfl
    have HI:=Zh hi;clear hi;go_wp2;go_ret;refine ⟨Yw ?_,hb⟩;show Value.string _=_;rw [HI.out,<- ByteArray.mk_append_mk]
   ·
    have hi:Lib.itoa n=l:=by unfold Lib.itoa;rw [if_neg hs,<- hd.out];congr 1;omega
    have HI:=Zh hi;clear hi;go_wp2;go_ret;exact ⟨jY4 HI.out.symm,hb⟩
  ·
   have hst:=Zh (hr.out.step (by
    by_cases hq:q=0
    · right;exact Classical.byContradiction fun h=>hz ⟨hq,h⟩
    · exact .inl hq))
   have hlen:=hst.out.len h0 h1;have happ:∀ c:UInt8,(⟨#[c]⟩:ByteArray)++⟨l.toArray⟩=⟨(c :: l).toArray⟩:=fun c=>ByteArray.mk_append_mk [c] l
   have HA:=Zh happ;clear happ
   have hcases:(q=0/\l=[])∨0 < q∨q < 0:=by
    by_cases hq:q=0
    · left;exact ⟨hq,Classical.byContradiction fun h=>hz ⟨hq,h⟩⟩
    · omega
   clear hz
   rcases hcases with ⟨rfl,rfl⟩ | hq | hq
   ·
    go_wp2;go_roundw
    case rel=>
     refine ⟨[48],0,by rw [HA.out],rfl,by omega,by omega,by simp,hst.out,?_⟩
     (repeat (first | exact Below.refl _ _ | assumption | refine Y0 ?_ | refine Qj _ ?_ | refine bset _ (by simp) ?_ | refine Qk (by assumption) ?_ | refine Grow.below (by assumption) ?_ | refine Tryst2.Grow.below (by assumption) ?_))
    case measure=>exact Nat.lt_of_le_of_lt (Nat.le_of_eq (vYk 48 [] _ 0)) (by decide)
   ·
    have ha:q.natAbs % 10=(q % 10).toNat:=by omega
    rw [ha] at hst hlen;have h10:0<=q % 10:=by omega
    have h11:q % 10<=9:=by omega
    have hb10:(q==0)=false:=by simp;omega
    have hdv:q.tdiv 10=q / 10:=Int.tdiv_eq_ediv_of_nonneg (by omega);rw [hdv] at hst;clear hdv ha;go_wp2;go_roundw
    case rel=>
     refine ⟨UInt8.ofNat (48+(q % 10).toNat) :: l,q / 10,?_,rfl,by omega,by omega,by simpa using hlen,hst.out,?_⟩
     · rw [show (48+q % 10).toNat=48+(q % 10).toNat by omega,HA.out]
     · (repeat (first | exact Below.refl _ _ | assumption | refine Y0 ?_ | refine Qj _ ?_ | refine bset _ (by simp) ?_ | refine Qk (by assumption) ?_ | refine Grow.below (by assumption) ?_ | refine Tryst2.Grow.below (by assumption) ?_))
    case measure=>exact Nat.lt_of_lt_of_le (by rw [vYk];omega) (kYb _ _ _)
   ·
    obtain ⟨a,rfl⟩:∃ a:Nat,q=-(a:Int):=⟨q.natAbs,by omega⟩;have ha:(-(a:Int)).natAbs=a:=by omega
    have hdv:(-(a:Int)).tdiv 10=-((a / 10:Nat):Int):=by rw [Int.neg_tdiv];rfl
    have hmd:(-(a:Int)).tmod 10=-((a % 10:Nat):Int):=by rw [Int.neg_tmod];rfl
    rw [ha] at hst hlen;rw [hdv] at hst;have h11:a % 10<=9:=by omega
    have hb10:((-(a:Int))==0)=false:=by simp;omega
    by_cases hm:a % 10=0
    ·
     have hmd':(-(a:Int)).tmod 10=0:=by rw [hmd,hm];rfl
     rw [hm] at hst;clear hmd hm ha;go_wp2;go_roundw
     case rel=>
      refine ⟨48 :: l,-((a / 10:Nat):Int),by rw [HA.out],by simp,by omega,by omega,by simpa using hlen,hst.out,?_⟩
      (repeat (first | exact Below.refl _ _ | assumption | refine Y0 ?_ | refine Qj _ ?_ | refine bset _ (by simp) ?_ | refine Qk (by assumption) ?_ | refine Grow.below (by assumption) ?_ | refine Tryst2.Grow.below (by assumption) ?_))
     case measure=>exact Nat.lt_of_lt_of_le (by rw [vYk];omega) (kYb _ _ _)
    ·
     have hm1:-((a % 10:Nat):Int) < 0:=by omega
     have hu:(48:UInt8)+UInt8.ofNat (a % 10)=UInt8.ofNat (48+a % 10):=by
      apply UInt8.toNat.inj;simp
     have HU:=Zh hu;clear hm ha hu;go_wp2;go_roundw
     case rel=>
      refine ⟨UInt8.ofNat (48+a % 10) :: l,-((a / 10:Nat):Int),by rw [HU.out,HA.out],by simp,by omega,by omega,by simpa using hlen,hst.out,?_⟩
      (repeat (first | exact Below.refl _ _ | assumption | refine Y0 ?_ | refine Qj _ ?_ | refine bset _ (by simp) ?_ | refine Qk (by assumption) ?_ | refine Grow.below (by assumption) ?_ | refine Tryst2.Grow.below (by assumption) ?_))
     case measure=>exact Nat.lt_of_lt_of_le (by rw [vYk];omega) (kYb _ _ _)
def Tab (w : World) : Prop := Lib.TabIs Tryz.prog w "internal/strconv.uint64pow10" .u64 Lib.pow10Tab /\ 1 < w.heap.size
theorem Tab.grow {w w':World} (h:Tab w) (hb:Below w.heap.size w w'):Tab w':=
 ⟨var?_below hb (g:=1) (by kernel_rfl) h.2 h.1,Nat.lt_of_lt_of_le h.2 hb.size⟩
theorem xQa (n:Int) (h0:-9223372036854775808<=n) (h1:n<=9223372036854775807) (w:World) (hT:Tab w) :
  Calls Tryz.prog 244 #[.int .i64 n,.int .i64 10] w fun e w'=>e=.returned (.string ⟨(Lib.itoa n).toArray⟩)/\Below w.heap.size w w':=
 (Tryz.strconv_FormatInt_10 n h0 h1 w hT.1).mono fun e w' ⟨he,k,os,hw⟩=>⟨he,by
  subst hw
  exact ⟨rfl,rfl,rfl,by simp [Go.Sort.grow],fun i hi=>by
   show ((w.drewN k).heap++os)[i]?=_;exact (Array.getElem?_append_left (xs:=(w.drewN k).heap) hi).trans rfl⟩⟩
theorem vQV {l:List UInt8} {k:Nat} (h:k < l.length):esc (l.take (k+1))=esc (l.take k)++esc1 l[k]:=by
 rw [List.take_succ_eq_append_getElem h,vJU]
theorem xQP (l:List UInt8) (k:Nat):(esc (l.take k)).length<=2*l.length:=by
 have h1:=vQG (l.take k);have h2:(l.take k).length<=l.length:=by simp;omega
 omega
theorem vJY (s:ByteArray) (k:Nat) (hlt:k < s.size) (c:Nat) (hc:s[k].toNat=c):(((c:Int)==34)=true/\Hid (esc1 s[k]=[92,s[k]]))∨(((c:Int)==34)=false/\((c:Int)==92)=true/\Hid (esc1 s[k]=[92,s[k]]))∨(((c:Int)==34)=false/\((c:Int)==92)=false/\Hid (esc1 s[k]=[s[k]])):=by
 have e34:s[k]=34↔c=34:=⟨fun h=>by rw [<- hc,h];rfl,fun h=>UInt8.toNat.inj (by rw [hc,h];rfl)⟩;have e92:s[k]=92↔c=92:=⟨fun h=>by rw [<- hc,h];rfl,fun h=>UInt8.toNat.inj (by rw [hc,h];rfl)⟩;unfold Hid esc1
 by_cases h1:c=34
 · left;subst h1;exact ⟨rfl,by rw [if_pos (.inl (e34.2 rfl))]⟩
 ·
  have h1':((c:Int)==34)=false:=by simp;omega
  by_cases h2:c=92
  · right;left;subst h2;exact ⟨rfl,rfl,by rw [if_pos (.inr (e92.2 rfl))]⟩
  ·
   right;right
   exact ⟨h1',by simp;omega,by rw [if_neg (fun h=>h.elim (fun h=>h1 (e34.1 h)) (fun h=>h2 (e92.1 h)))]⟩
theorem zYK (s:ByteArray) (k:Nat) (hlt:k < s.size):(s.extract k (k+1)).data.toList=[s[k]]:=by
 have hlt':k < s.data.toList.length:=by simpa using hlt
 rw [zQ7,List.take_succ_eq_append_getElem hlt',List.drop_append_of_le_length (by simp;omega),List.drop_eq_nil_of_le (by simp;omega)];rfl
theorem vYi {s b:ByteArray} {k:Nat} (hlt:k < s.size) (hb:b.data.toList=34 :: esc (s.data.toList.take k)) (E:esc1 s[k]=[92,s[k]]) :
  (b++⟨#[92]⟩++s.extract k (k+1)).data.toList=34 :: esc (s.data.toList.take (k+1)):=by
 rw [qJl,qJl,hb,zYK s k hlt,vQV (by simpa using hlt),show esc1 (s.data.toList[k]'(by simpa using hlt))=[92,s[k]] from E];simp
theorem vYg {s b:ByteArray} {k:Nat} (hlt:k < s.size) (hb:b.data.toList=34 :: esc (s.data.toList.take k)) (E:esc1 s[k]=[s[k]]) :
  (b++s.extract k (k+1)).data.toList=34 :: esc (s.data.toList.take (k+1)):=by
 rw [qJl,hb,zYK s k hlt,vQV (by simpa using hlt),show esc1 (s.data.toList[k]'(by simpa using hlt))=[s[k]] from E];simp
theorem zYQ {s b:ByteArray} {k:Nat} (hs:s.size<=1500000) (h:b.data.toList=34 :: esc (s.data.toList.take k)):b.size<=10000000:=by
 have:=congrArg List.length h;rw [Qx,List.length_cons] at this;have h2:=xQP s.data.toList k;rw [Qx] at h2;omega
theorem vQi {x:Bool} {n:Int} {s:ByteArray} (hs:s.size<=1500000) (h0:-9223372036854775808<=n) (h1:n<=9223372036854775807) (h:V.May ⟨x,n,s.data.toList⟩) (w:World) (hT:Tab w) :
  Calls Tryz.prog 230 #[.agg #[.bool x,.int .i64 n,.string s]] w fun e w'=>e=.returned (.tuple #[.string ⟨(V.write ⟨x,n,s.data.toList⟩).toArray⟩,.int .i64 0])/\Below w.heap.size w w':=by
 have H:=Zh h;clear h;have HT:=Zh hT;clear hT;cases x with
 | true=>
  go_enter Tryz.func230,Tryz.ntmps230;go_wp2_with (first | (go_at_call 217;refine (zQv (by omega) H.out _).mono ?_;rintro e w1 ⟨rfl,hb1⟩;obtain ⟨hc1,hf1⟩:=Z8 hb1;have hz1:w.heap.size < w1.heap.size:=by have:=hb1.size;simp at this;omega) | (go_at_call 244;refine (xQa n h0 h1 _ (HT.out.grow (Qk hb1 (Qj _ (.refl _ _))))).mono ?_;rintro e w2 ⟨rfl,hb2⟩));go_ret2;refine ⟨rfl,?_⟩
  (repeat (first | exact Below.refl _ _ | assumption | refine Y0 ?_ | refine Qj _ ?_ | refine bset _ (by simp) ?_ | refine Qk (by assumption) ?_ | refine Grow.below (by assumption) ?_ | refine Tryst2.Grow.below (by assumption) ?_))
 | false=>
  go_enter Tryz.func230,Tryz.ntmps230;go_wp2_with (go_at_call 217;refine (zQv (by omega) H.out _).mono ?_;rintro e w1 ⟨rfl,hb1⟩;obtain ⟨hc1,hf1⟩:=Z8 hb1;have hz1:w.heap.size < w1.heap.size:=by have:=hb1.size;simp at this;omega);have hp1:w1.cell? ⟨w.heap.size,0,none⟩=some (.bool false):=by rw [hc1 _ _ (by simp)];simp
  have hp2:w1.cell? ⟨w.heap.size,2,none⟩=some (.string s):=by rw [hc1 _ _ (by simp)];simp
  clear hc1 hf1;go_loopw [4,18] (fun v i wr=>∃ (k:Nat),k<=s.size/\i=.int .i64 k/\wr.ownsRow (w.heap.size+1) 5 1 v (34 :: esc (s.data.toList.take k)).length ((34 :: esc (s.data.toList.take k)).map qQI)/\Below (w.heap.size+1) w1 wr) (fun _ i _=>s.size - (intOf i).toNat)
  case atStart=>exact ⟨0,by omega,rfl,World.ownsRow_lit w1 _ 1 (by omega) (by decide) rfl,(Below.refl _ _).alloc (by omega) _⟩
  case round=>
   obtain ⟨k,hk,rfl,hown,hb⟩:=hrel;have hcs:wr.cell? ⟨w.heap.size,2,none⟩=some (.string s):=(hb.cell (p:=⟨w.heap.size,2,none⟩) (by simp)).trans hp2;have hB:w.heap.size+1<=wr.heap.size:=by have:=hb.size;omega
   have hB2:w.heap.size < wr.heap.size:=by omega
   have hlen:(34 :: esc (s.data.toList.take k)).length<=10000000:=by
    have:=xQP s.data.toList k;rw [Qx] at this;simp only [List.length_cons];omega
   by_cases hlt:k < s.size
   ·
    obtain ⟨c,hc⟩:∃ c,s[k].toNat=c:=⟨_,rfl⟩;have hcl:c < 256:=hc ▸ s[k].toNat_lt;have hte:esc (s.data.toList.take (k+1))=esc (s.data.toList.take k)++esc1 s[k]:=vQV (by simpa using hlt);have HE:=Zh hte;have hcb:qQI s[k]=.int .u8 c:=by unfold qQI;rw [hc]
    have HC:=Zh hcb;clear hte hcb;have D:=vJY s k hlt c hc
    rcases D with ⟨b1,E⟩ | ⟨b1,b2,E⟩ | ⟨b1,b2,E⟩
    iterate 2
     ·
      go_wp2_with (first | (at_builtin;refine Xw u8T rfl _ _ rfl (w.heap.size+1) _ _ _ rfl hown _ _ rfl rfl (by omega) hB ?_;intro v1 w2 hown1 hb2;clear hown;have hcs2:w2.cell? ⟨w.heap.size,2,none⟩=some (.string s):=(hb2.cell (p:=⟨w.heap.size,2,none⟩) (by simp)).trans hcs;have hB3:w.heap.size+1<=w2.heap.size:=by have:=hb2.size;omega) | (at_builtin;refine Xw u8T rfl _ _ rfl (w.heap.size+1) _ _ _ rfl hown1 _ _ rfl rfl (by omega) hB3 ?_;intro v2 w3 hown2 hb3));go_roundw
      case rel=>
       refine ⟨k+1,by omega,by go_num,?_,hb.trans (hb2.trans hb3)⟩;have e:34 :: esc (s.data.toList.take (k+1))=(34 :: esc (s.data.toList.take k))++[92,s[k]]:=by rw [HE.out,E.out];rfl
       rw [e,List.length_append,List.map_append];have e2:[92,s[k]].map qQI=[.int .u8 92]++[.int .u8 c]:=by rw [List.map_cons,List.map_cons,HC.out];rfl
       rw [e2,<- List.append_assoc];exact hown2
      case measure=>simp [intOf]<;>omega
    ·
     go_wp2_with (at_builtin;refine Xw u8T rfl _ _ rfl (w.heap.size+1) _ _ _ rfl hown _ _ rfl rfl (by omega) hB ?_;intro v1 w2 hown1 hb2);go_roundw
     case rel=>
      refine ⟨k+1,by omega,by go_num,?_,hb.trans hb2⟩;have e:34 :: esc (s.data.toList.take (k+1))=(34 :: esc (s.data.toList.take k))++[s[k]]:=by rw [HE.out,E.out];rfl
      rw [e,List.length_append,List.map_append];have e2:[s[k]].map qQI=[.int .u8 c]:=by rw [List.map_cons,HC.out];rfl
      rw [e2];exact hown1
     case measure=>simp [intOf]<;>omega
   ·
    have hke:k=s.data.toList.length:=by simp;omega
    have e:34 :: esc (s.data.toList.take k)++[34]=Tryst.wr s.data.toList:=by rw [hke,List.take_length];rfl
    have E:=Zh e;clear e hke;go_wp2_with (at_builtin;refine Xw u8T rfl _ _ rfl (w.heap.size+1) _ _ _ rfl hown _ _ rfl rfl (by omega) hB ?_;intro v1 w2 hown1 hb2;have hcv:=kQj (P:=Tryz.prog) (l:=34 :: esc (s.data.toList.take k)++[34]) 77 9 Tryz.underlying77 Tryz.underlying5 Tryz.underlying9 (by rw [List.map_append];exact hown1));go_ret2;refine ⟨Yw ?_,(Qk hb1 (Qj _ (.refl _ _))).trans ((hb.trans hb2).mono (by omega))⟩;show Value.tuple #[.string ⟨(34 :: esc (s.data.toList.take k)++[34]).toArray⟩,.int .i64 0]=_;rw [E.out];rfl
theorem zY6 {x:Bool} {n:Int} {s:ByteArray} (hs:s.size<=1500000) (h0:-9223372036854775808<=n) (h1:n<=9223372036854775807) (w:World) :
  Calls Tryz.prog 173 #[.agg #[.bool x,.int .i64 n,.string s]] w fun e w'=>e=.returned (.string ⟨(V.write ⟨x,n,s.data.toList⟩).toArray⟩)/\Below w.heap.size w w':=by
 cases x with
 | true=>
  go_enter Tryz.func173,Tryz.ntmps173;go_wp2_with (go_at_call 204;refine (zYY n h0 h1 _).mono ?_;rintro e w1 ⟨rfl,hb1⟩);go_ret;refine ⟨rfl,?_⟩
  (repeat (first | exact Below.refl _ _ | assumption | refine Y0 ?_ | refine Qj _ ?_ | refine bset _ (by simp) ?_ | refine Qk (by assumption) ?_ | refine Grow.below (by assumption) ?_ | refine Tryst2.Grow.below (by assumption) ?_))
 | false=>
  go_enter Tryz.func173,Tryz.ntmps173;go_wp2;obtain ⟨X,hX⟩:∃ X,w.alloc (.cells #[.bool false,.int .i64 n,.string s] 121)=X:=⟨_,rfl⟩;have hp2:X.cell? ⟨w.heap.size,2,none⟩=some (.string s):=by rw [<- hX];simp
  have hbX:Below w.heap.size w X:=by rw [<- hX];exact Qj _ (.refl _ _)
  have hzX:w.heap.size < X.heap.size:=by rw [<- hX];simp
  rw [hX];clear hX
  go_loop [3,4] (fun v i=>∃ (k:Nat) (b:ByteArray),k<=s.size/\i=.int .i64 k/\v=.string b/\b.size<=10000000/\Hid (b.data.toList=34 :: esc (s.data.toList.take k))) (fun _ i=>s.size - (intOf i).toNat)
  case atStart=>exact ⟨0,⟨#[34]⟩,by omega,rfl,rfl,by decide,rfl⟩
  case round=>
   obtain ⟨k,b,hk,rfl,rfl,hbz,hbe⟩:=hrel
   by_cases hlt:k < s.size
   ·
    obtain ⟨c,hc⟩:∃ c,s[k].toNat=c:=⟨_,rfl⟩;have hcl:c < 256:=hc ▸ s[k].toNat_lt
    rcases vJY s k hlt c hc with ⟨b1,E⟩ | ⟨b1,b2,E⟩ | ⟨b1,b2,E⟩
    iterate 2
     ·
      have h2:=vYi hlt hbe.out E.out;have H2:=Zh h2;have H3:=Zh (zYQ hs h2);clear h2;go_wp2
      go_round
      case rel=>exact ⟨k+1,_,by omega,by go_num,rfl,H3.out,H2.out⟩
      case measure=>simp [intOf]<;>omega
    ·
     have h2:=vYg hlt hbe.out E.out;have H2:=Zh h2;have H3:=Zh (zYQ hs h2);clear h2;go_wp2
     go_round
     case rel=>exact ⟨k+1,_,by omega,by go_num,rfl,H3.out,H2.out⟩
     case measure=>simp [intOf]<;>omega
   ·
    have hke:k=s.data.toList.length:=by simp;omega
    have e:b++⟨#[34]⟩=⟨(Tryst.wr s.data.toList).toArray⟩:=by
     apply Xk
     rw [qJl,hbe.out,Jb,hke,List.take_length];simp [Tryst.wr]
    have E:=Zh e;clear e hke;go_wp2;go_ret;refine ⟨Yw ?_,hbX⟩;show Value.string (b++⟨#[34]⟩)=_;rw [E.out];rfl
theorem jYy (w:World):(Instr.makeSlice 77 (.int .i64 0) (.int .i64 60)).run Tryz.prog w=.ok (.slice (some ⟨w.heap.size,0,none⟩) 0 60) (w.alloc (.cells (Array.replicate 60 (.int .u8 0)) 5)):=by kernel_rfl
def jQb (l:List UInt8):List UInt8 × Nat:=match txtF (l.drop 1) 0 with | some p=>(p.1,p.2+1) | none=>([],0)
theorem qJB {s:ByteArray} {k:Nat} (h:k < s.size) (d:Nat) (hd:d < 256):s[k]=UInt8.ofNat d↔((s[k].toNat:Int)==(d:Int))=true:=by
 constructor
 · intro e;rw [e];simp;omega
 · intro e;apply UInt8.toNat.inj;simp at e ⊢;omega
theorem xQI {s:ByteArray} {k:Nat} (h:k < s.size) (c:Nat) (hc:s[k].toNat=c) (d:Nat) (hd:d < 256):(((c:Int)==(d:Int))=true/\s[k]=UInt8.ofNat d)∨(((c:Int)==(d:Int))=false/\s[k]≠UInt8.ofNat d):=by
 have:=qJB h d hd;rw [hc] at this;cases hb:((c:Int)==(d:Int)) with
 | true=>exact .inl ⟨rfl,this.2 hb⟩
 | false=>exact .inr ⟨rfl,fun e=>by rw [this.1 e] at hb;cases hb⟩
theorem zJ2 {s:ByteArray} {k:Nat} {t:List UInt8} (h:qYG s.data.toList k t) (hlt:k < s.size):∃ c:Nat,c < 256/\s[k].toNat=c/\
  ((((c:Int)==34)=true/\Hid (jQb s.data.toList=(t,k+1)))∨
  (((c:Int)==34)=false/\((c:Int)==92)=true/\s.size<=k+1/\Hid (jQb s.data.toList=([],0)))∨
  (∃ (h':k+1 < s.size) (d:Nat),d < 256/\s[k+1].toNat=d/\((c:Int)==34)=false/\((c:Int)==92)=true/\
   ((((d:Int)==34)=false/\((d:Int)==92)=false/\Hid (jQb s.data.toList=([],0)))∨
   ((((d:Int)==34)=true∨(((d:Int)==34)=false/\((d:Int)==92)=true))/\((t.length:Int)==60)=true/\Hid (jQb s.data.toList=([],0)))∨
   ((((d:Int)==34)=true∨(((d:Int)==34)=false/\((d:Int)==92)=true))/\((t.length:Int)==60)=false/\t.length<=59/\Hid (qYG s.data.toList (k+2) (t++[s[k+1]])))))∨
  (((c:Int)==34)=false/\((c:Int)==92)=false/\((t.length:Int)==60)=true/\Hid (jQb s.data.toList=([],0)))∨
  (((c:Int)==34)=false/\((c:Int)==92)=false/\((t.length:Int)==60)=false/\t.length<=59/\Hid (qYG s.data.toList (k+1) (t++[s[k]])))):=by
 have hlt':k < s.data.toList.length:=by simpa using hlt
 have hg:s.data.toList[k]=s[k]:=rfl;have h60:=h.2.1;refine ⟨s[k].toNat,s[k].toNat_lt,rfl,?_⟩
 have full:((t.length:Int)==60)=true/\t.length=60∨((t.length:Int)==60)=false/\t.length≠60:=by
  by_cases e:t.length=60
  · left;exact ⟨by simp [e],e⟩
  · right;exact ⟨by simp;omega,e⟩
 rcases xQI hlt _ rfl 34 (by decide) with ⟨b1,e1⟩ | ⟨b1,e1⟩
 ·
  left
  refine ⟨b1,?_⟩;unfold Hid jQb;rw [h.quote hlt' (by rw [hg,e1];rfl)]
 ·
  have n34:s.data.toList[k]≠34:=fun e=>e1 (by rw [<- hg,e];rfl)
  rcases xQI hlt _ rfl 92 (by decide) with ⟨b2,e2⟩ | ⟨b2,e2⟩
  ·
   have e92:s.data.toList[k]=92:=by rw [hg,e2];rfl
   by_cases hk1:k+1 < s.size
   ·
    have hk1':k+1 < s.data.toList.length:=by simpa using hk1
    have hg1:s.data.toList[k+1]=s[k+1]:=rfl
    right;right;left
    refine ⟨hk1,s[k+1].toNat,s[k+1].toNat_lt,rfl,b1,b2,?_⟩
    have good:(((s[k+1].toNat:Int)==34)=true∨(((s[k+1].toNat:Int)==34)=false/\((s[k+1].toNat:Int)==92)=true))->(s.data.toList[k+1]=34∨s.data.toList[k+1]=92):=fun hx=>by
     rcases hx with hx | ⟨_,hx⟩
     · left;rw [hg1];exact (qJB hk1 34 (by decide)).2 hx
     · right;rw [hg1];exact (qJB hk1 92 (by decide)).2 hx
    have jYB:(((s[k+1].toNat:Int)==34)=false/\((s[k+1].toNat:Int)==92)=false/\¬ (s.data.toList[k+1]=34∨s.data.toList[k+1]=92))∨(((s[k+1].toNat:Int)==34)=true∨(((s[k+1].toNat:Int)==34)=false/\((s[k+1].toNat:Int)==92)=true)):=by
     rcases xQI hk1 _ rfl 34 (by decide) with ⟨d1,f1⟩ | ⟨d1,f1⟩
     · exact .inr (.inl d1)
     ·
      rcases xQI hk1 _ rfl 92 (by decide) with ⟨d2,f2⟩ | ⟨d2,f2⟩
      · exact .inr (.inr ⟨d1,d2⟩)
      · exact .inl ⟨d1,d2,fun hx=>hx.elim (fun e=>f1 (by rw [<- hg1,e];rfl)) (fun e=>f2 (by rw [<- hg1,e];rfl))⟩
    rcases jYB with ⟨d1,d2,nd⟩ | gd
    ·
     left
     refine ⟨d1,d2,?_⟩;unfold Hid jQb;rw [h.escBad hk1' e92 nd]
    ·
     right
     rcases full with ⟨q1,q2⟩ | ⟨q1,q2⟩
     ·
      left
      refine ⟨gd,q1,?_⟩;unfold Hid jQb;rw [h.escFull hk1' e92 q2]
     ·
      right
      exact ⟨gd,q1,by omega,h.esc hk1' e92 (good gd) q2⟩
   ·
    right;left
    refine ⟨b1,b2,by omega,?_⟩;unfold Hid jQb;rw [h.escEnd hlt' e92 (by simp;omega)]
  ·
   have n92:s.data.toList[k]≠92:=fun e=>e2 (by rw [<- hg,e];rfl)
   rcases full with ⟨q1,q2⟩ | ⟨q1,q2⟩
   ·
    right;right;right;left
    refine ⟨b1,b2,q1,?_⟩;unfold Hid jQb;rw [h.plainFull hlt' n34 n92 q2]
   ·
    right;right;right;right
    exact ⟨b1,b2,q1,by omega,h.plain hlt' n34 n92 q2⟩
theorem vJf (s:ByteArray) (hs:s.size<=1500000) (w:World) :
  Calls Tryz.prog 269 #[.string s] w fun e w'=>e=.returned (.tuple #[.string ⟨(jQb s.data.toList).1.toArray⟩,.int .i64 (jQb s.data.toList).2])/\Below w.heap.size w w':=by
 have hmk:=jYy;go_enter Tryz.func269,Tryz.ntmps269;go_wp2;clear hmk;go_loopw [4,5] (fun v i wr=>∃ (k:Nat) (t:List UInt8),k<=s.size+1/\i=.int .i64 k/\t.length<=60/\wr.ownsRow w.heap.size 5 1 v t.length (t.map qQI)/\Hid (qYG s.data.toList k t)/\Below w.heap.size w wr) (fun _ i _=>s.size+1 - (intOf i).toNat)
 case atStart=>exact ⟨1,[],by omega,rfl,by simp,World.ownsRow_made _ _ _ (Nat.le_refl _) (by decide) rfl,qYG.start _,Qj _ (.refl _ _)⟩
 case round=>
  obtain ⟨k,t,hk,rfl,ht,hown,hr,hb⟩:=hrel;have hB:=hb.size
  have hlen:∃ a cap,u4=.slice a t.length cap:=by
   rcases hown.2 with ⟨h1,h2⟩ | ⟨g,cap,cur,h1,_⟩
   · exact ⟨none,0,by rw [h1,h2]⟩
   · exact ⟨_,cap,h1⟩
  obtain ⟨adr,cap,rfl⟩:=hlen
  by_cases hlt:k < s.size
  ·
   obtain ⟨c,hc8,hc,hw⟩:=zJ2 hr.out hlt;have hcv:=kQj (P:=Tryz.prog) (l:=t) 77 9 Tryz.underlying77 Tryz.underlying5 Tryz.underlying9 hown
   rcases hw with ⟨b1,Z⟩ | ⟨b1,b2,h1,Z⟩ | ⟨h',d,hd8,hd,b1,b2,⟨d1,d2,Z⟩ | ⟨d1 | ⟨d1,d2⟩,q,Z⟩ | ⟨d1 | ⟨d1,d2⟩,q,q1,R⟩⟩ | ⟨b1,b2,q,Z⟩ | ⟨b1,b2,q,q1,R⟩
   · go_wp2;go_ret2;exact ⟨Yw (by rw [Z.out];rfl),hb⟩
   · go_wp2;go_ret2;exact ⟨Yw (by rw [Z.out];rfl),hb⟩
   · have n1:=kQD d1;have n2:=kQD d2;go_wp2;go_ret2;exact ⟨Yw (by rw [Z.out];rfl),hb⟩
   · have n1:=qQq d1;go_wp2;go_ret2;exact ⟨Yw (by rw [Z.out];rfl),hb⟩
   · have n1:=kQD d1;have n2:=qQq d2;go_wp2;go_ret2;exact ⟨Yw (by rw [Z.out];rfl),hb⟩
   ·
    have n1:=qQq d1;go_wp2_with (at_builtin;refine Xw u8T rfl _ _ rfl w.heap.size _ _ _ rfl hown _ _ rfl rfl (by omega) hB ?_;intro v1 w2 hown1 hb2);go_roundw
    case rel=>exact ⟨k+2,t++[s[k+1]],by omega,by go_num,by simp;omega,by rw [List.length_append,List.map_append];simp only [List.map_cons,List.map_nil,List.length_cons,List.length_nil,Nat.zero_add,qQI,hd];exact hown1,R,hb.trans hb2⟩
    case measure=>simp [intOf]<;>omega
   ·
    have n1:=kQD d1;have n2:=qQq d2;go_wp2_with (at_builtin;refine Xw u8T rfl _ _ rfl w.heap.size _ _ _ rfl hown _ _ rfl rfl (by omega) hB ?_;intro v1 w2 hown1 hb2);go_roundw
    case rel=>exact ⟨k+2,t++[s[k+1]],by omega,by go_num,by simp;omega,by rw [List.length_append,List.map_append];simp only [List.map_cons,List.map_nil,List.length_cons,List.length_nil,Nat.zero_add,qQI,hd];exact hown1,R,hb.trans hb2⟩
    case measure=>simp [intOf]<;>omega
   · go_wp2;go_ret2;exact ⟨Yw (by rw [Z.out];rfl),hb⟩
   ·
    go_wp2_with (at_builtin;refine Xw u8T rfl _ _ rfl w.heap.size _ _ _ rfl hown _ _ rfl rfl (by omega) hB ?_;intro v1 w2 hown1 hb2);go_roundw
    case rel=>exact ⟨k+1,t++[s[k]],by omega,by go_num,by simp;omega,by rw [List.length_append,List.map_append];simp only [List.map_cons,List.map_nil,List.length_cons,List.length_nil,Nat.zero_add,qQI,hc];exact hown1,R,hb.trans hb2⟩
    case measure=>simp [intOf]<;>omega
  ·
   have hz:jQb s.data.toList=([],0):=by unfold jQb;rw [hr.out.stop (by simp;omega)]
   have HZ:=Zh hz;clear hz;go_wp2;go_ret2;exact ⟨Yw (by rw [HZ.out];rfl),hb⟩
theorem vJ3 (s:ByteArray) (i:Nat) (h:s.size<=i):Zq s.data.toList i=false:=by
 unfold Zq;rw [List.getElem?_eq_none (by simp;omega)]
theorem vJG (s:ByteArray) (i:Nat) (h:i < s.size):Zq s.data.toList i=(decide (48<=s[i].toNat)&&decide (s[i].toNat<=57)):=by
 unfold Zq;rw [List.getElem?_eq_getElem (by simpa using h)];rfl
theorem Zp (s:ByteArray) (hs:s.size<=1500000) (i:Int) (h0:0<=i) (h1:i<=2000000) (a:Addr) (w:World) (hc:w.cell? a=some (.string s)) :
  Calls Tryz.prog 276 #[.int .i64 i,.pointer (some a)] w fun e w'=>e=.returned (.bool (Zq s.data.toList i.toNat))/\w=w':=by
 obtain ⟨k,rfl⟩:=Int.eq_ofNat_of_zero_le h0;rw [Int.toNat_natCast]
 by_cases hlt:k < s.size
 ·
  have hd:=vJG s k hlt;have HD:=Zh hd;clear hd;obtain ⟨c,hcc⟩:∃ c,s[k].toNat=c:=⟨_,rfl⟩;have hcl:c < 256:=hcc ▸ s[k].toNat_lt
  by_cases h48:48<=c
  all_goals
   go_enter Tryz.func276,Tryz.ntmps276;go_wp2;go_ret;refine ⟨Qq ?_,rfl⟩;rw [HD.out,hcc]
   first | (simp;done) | (simp;omega) | (rw [Bool.eq_iff_iff];simp;omega)
 · have hd:=vJ3 s k (by omega);have HD:=Zh hd;clear hd;go_enter Tryz.func276,Tryz.ntmps276;go_wp2;go_ret;exact ⟨Qq HD.out.symm,rfl⟩
theorem kJD (q:Nat) (h:q<=9223372036854775808):wrap64 (-wrap64 (q:Int))=-(q:Int):=by
 unfold wrap64;omega
theorem xQp (s:ByteArray) (h:1<=s.size):∃ c:Nat,c < 256/\s[0].toNat=c/\
  ((Hid (Lib.hasPrefix s.data.toList [45]=true)/\Hid (Zq s.data.toList 1=false)/\Hid (Q2 s.data.toList=(0,0)))∨
  (Hid (Lib.hasPrefix s.data.toList [45]=true)/\Hid (Zq s.data.toList 1=true)/\∃ (h':1 < s.size) (d:Nat),d < 256/\s[1].toNat=d/\((d:Int)==48)=true/\Hid (Q2 s.data.toList=(0,0)))∨
  (Hid (Lib.hasPrefix s.data.toList [45]=true)/\Hid (Zq s.data.toList 1=true)/\∃ (h':1 < s.size) (d:Nat),d < 256/\s[1].toNat=d/\((d:Int)==48)=false/\Hid (∀ v k,scan 9223372036854775808 0 (s.data.toList.drop 1)=(v,k)->Q2 s.data.toList=(-(v:Int),k+1)))∨
  (Hid (Lib.hasPrefix s.data.toList [45]=false)/\Hid (Zq s.data.toList 0=false)/\Hid (Q2 s.data.toList=(0,0)))∨
  (Hid (Lib.hasPrefix s.data.toList [45]=false)/\Hid (Zq s.data.toList 0=true)/\((c:Int)==48)=true/\Hid (Q2 s.data.toList=(0,1)))∨
  (Hid (Lib.hasPrefix s.data.toList [45]=false)/\Hid (Zq s.data.toList 0=true)/\((c:Int)==48)=false/\Hid (∀ v k,scan 9223372036854775807 0 (s.data.toList.drop 0)=(v,k)->Q2 s.data.toList=((v:Int),k+0)))):=by
 have hlen:0 < s.data.toList.length:=by simp;omega
 obtain ⟨r,hr⟩:∃ r,s.data.toList=s[0] :: r:=⟨_,by rw [<- List.drop_zero (l:=s.data.toList),List.drop_eq_getElem_cons hlen];rfl⟩
 have hg1:∀ h':1 < s.size,∃ t,r=s[1] :: t:=fun h'=>by
  have hlen1:1 < s.data.toList.length:=by simpa using h'
  have:r=s.data.toList.drop 1:=by rw [hr];rfl
  rw [this,List.drop_eq_getElem_cons hlen1];exact ⟨_,rfl⟩
 have hsz:s.size=r.length+1:=by rw [<- Qx,hr];rfl
 refine ⟨s[0].toNat,s[0].toNat_lt,rfl,?_⟩;generalize hx:s[0]=x at *;rw [hr]
 by_cases h45:x.toNat=45
 ·
  have e45:x=45:=UInt8.toNat.inj (by rw [h45];rfl);have hp:Lib.hasPrefix (x :: r) [45]=true:=by rw [e45];rfl
  cases r with
  | nil=>exact .inl ⟨hp,rfl,by unfold Hid Q2;simp [h45]⟩
  | cons d r'=>
   have h1:1 < s.size:=by rw [hsz];simp
   obtain ⟨t,ht⟩:=hg1 h1;have hd1:s[1]=d:=(List.cons.inj ht).1.symm
   by_cases hd:Jx d=true
   ·
    have hdg:Zq (x :: d :: r') 1=true:=hd
    by_cases h48:d.toNat=48
    · exact .inr (.inl ⟨hp,hdg,h1,d.toNat,d.toNat_lt,by rw [hd1],by rw [h48];rfl,by unfold Hid Q2;simp [h45,h48]⟩)
    · refine .inr (.inr (.inl ⟨hp,hdg,h1,d.toNat,d.toNat_lt,by rw [hd1],by simp;omega,fun v k hv=>?_⟩));unfold Q2;simp only [h45,if_true];rw [if_neg (by simp [hd,h48])];have:(x :: d :: r').drop 1=d :: r':=rfl;rw [this] at hv;rw [hv]
   · refine .inl ⟨hp,by unfold Hid Zq;simpa using hd,?_⟩;unfold Hid Q2;simp only [h45,if_true];rw [if_pos (.inl hd)]
 ·
  have hp:Lib.hasPrefix (x :: r) [45]=false:=by
   have:(45:UInt8)≠x:=fun e=>h45 (by rw [<- e];rfl)
   simp [Lib.hasPrefix,List.isPrefixOf,this]
  by_cases hd:Jx x=true
  ·
   have hdg:Zq (x :: r) 0=true:=hd
   by_cases h48:x.toNat=48
   · refine .inr (.inr (.inr (.inr (.inl ⟨hp,hdg,by rw [h48];rfl,?_⟩))));unfold Hid Q2;simp [h48,hd]
   · refine .inr (.inr (.inr (.inr (.inr ⟨hp,hdg,by simp;omega,fun v k hv=>?_⟩))));rw [List.drop_zero] at hv;unfold Q2;simp [h48,h45,hd,hv]
  · refine .inr (.inr (.inr (.inl ⟨hp,by unfold Hid Zq;simpa using hd,?_⟩)));unfold Hid Q2;simp [h45,hd]
set_option maxHeartbeats 4000000 in
theorem jJI (s:ByteArray) (hs:s.size<=1500000) (w:World) :
  Calls Tryz.prog 270 #[.string s] w fun e w'=>e=.returned (.tuple #[.int .i64 (Q2 s.data.toList).1,.int .i64 (Q2 s.data.toList).2])/\Below w.heap.size w w':=by
 by_cases h0:s.size=0
 ·
  have hl:s.data.toList=[]:=(qQ6 s).2 h0;have hz:Q2 s.data.toList=(0,0):=by rw [hl];rfl
  have HZ:=Zh hz;have hp:Lib.hasPrefix s.data.toList [45]=false:=by rw [hl];rfl
  have hd:Zq s.data.toList 0=false:=by rw [hl];rfl
  have HP:=Zh hp;have HD:=Zh hd;clear hz hl hp hd;go_enter Tryz.func270,Tryz.ntmps270;go_wp2_with (first | (go_at_call 246;refine (Tryz.strings_HasPrefix _ _ _).mono ?_;rintro e w1 ⟨rfl,rfl⟩;rw [Jb,HP.out]) | (go_at_call 276;refine (Zp s hs _ (by omega) (by omega) _ _ ?hc).mono ?_;(case hc=>simp);rintro e w1 ⟨rfl,rfl⟩;rw [show (0:Int).toNat=0 from rfl,HD.out]));go_ret2;refine ⟨Yw (by rw [HZ.out];rfl),?_⟩
  (repeat (first | exact Below.refl _ _ | assumption | refine Y0 ?_ | refine Qj _ ?_ | refine bset _ (by simp) ?_ | refine Qk (by assumption) ?_ | refine Grow.below (by assumption) ?_ | refine Tryst2.Grow.below (by assumption) ?_))
 ·
  have hpos:1<=s.size:=by omega
  clear h0;obtain ⟨c,hc8,hc,hw⟩:=xQp s hpos
  rcases hw with ⟨HP,HD,Z⟩ | ⟨HP,HD,h1,d,hd8,hd,b1,Z⟩ | ⟨HP,HD,h1,d,hd8,hd,b1,HF⟩ | ⟨HP,HD,Z⟩ | ⟨HP,HD,b1,Z⟩ | ⟨HP,HD,b1,HF⟩
  ·
   go_enter Tryz.func270,Tryz.ntmps270;go_wp2_with (first | (go_at_call 246;refine (Tryz.strings_HasPrefix _ _ _).mono ?_;rintro e w1 ⟨rfl,rfl⟩;rw [Jb,HP.out]) | (go_at_call 276;refine (Zp s hs _ (by omega) (by omega) _ _ ?hc).mono ?_;(case hc=>simp);rintro e w1 ⟨rfl,rfl⟩;rw [show (1:Int).toNat=1 from rfl,HD.out]));go_ret2;refine ⟨Yw (by rw [Z.out];rfl),?_⟩
   (repeat (first | exact Below.refl _ _ | assumption | refine Y0 ?_ | refine Qj _ ?_ | refine bset _ (by simp) ?_ | refine Qk (by assumption) ?_ | refine Grow.below (by assumption) ?_ | refine Tryst2.Grow.below (by assumption) ?_))
  ·
   go_enter Tryz.func270,Tryz.ntmps270;go_wp2_with (first | (go_at_call 246;refine (Tryz.strings_HasPrefix _ _ _).mono ?_;rintro e w1 ⟨rfl,rfl⟩;rw [Jb,HP.out]) | (go_at_call 276;refine (Zp s hs _ (by omega) (by omega) _ _ ?hc).mono ?_;(case hc=>simp);rintro e w1 ⟨rfl,rfl⟩;rw [show (1:Int).toNat=1 from rfl,HD.out]));go_ret2;refine ⟨Yw (by rw [Z.out];rfl),?_⟩
   (repeat (first | exact Below.refl _ _ | assumption | refine Y0 ?_ | refine Qj _ ?_ | refine bset _ (by simp) ?_ | refine Qk (by assumption) ?_ | refine Grow.below (by assumption) ?_ | refine Tryst2.Grow.below (by assumption) ?_))
  ·
   go_enter Tryz.func270,Tryz.ntmps270;go_wp2_with (first | (go_at_call 246;refine (Tryz.strings_HasPrefix _ _ _).mono ?_;rintro e w1 ⟨rfl,rfl⟩;rw [Jb,HP.out]) | (go_at_call 276;refine (Zp s hs _ (by omega) (by omega) _ _ ?hc).mono ?_;(case hc=>simp);rintro e w1 ⟨rfl,rfl⟩;rw [show (1:Int).toNat=1 from rfl,HD.out]))
   go_loop [6,8] (fun i n=>∃ (k q:Nat),k<=s.size/\q<=9223372036854775808/\i=.int .i64 k/\n=.int .u64 q/\Hid (jQB 9223372036854775808 s.data.toList 1 k q)) (fun i _=>s.size - (intOf i).toNat)
   case atStart=>exact ⟨1,0,by omega,by omega,rfl,rfl,.start _ _ _ (by simp<;>omega)⟩
   case round=>
    obtain ⟨k,q,hk,hq,rfl,rfl,hr⟩:=hrel;have hik:1<=k:=hr.out.1
    by_cases hdg:Zq s.data.toList k=true
    ·
     obtain ⟨hlt',hdd⟩:=jJW hdg;have hlt:k < s.size:=by simpa using hlt'
     have hdd2:Jx s[k]=true:=hdd;obtain ⟨c,hcc⟩:∃ c,s[k].toNat=c:=⟨_,rfl⟩
     have hcb:48<=c/\c<=57:=by
      unfold Jx at hdd2;rw [hcc] at hdd2
      simpa using hdd2
     obtain ⟨hc48,hc57⟩:=hcb;have A1:=Zh (hr.out.over hlt');have A2:=Zh (hr.out.step (by decide) hlt' hdd);have e:s.data.toList[k]=s[k]:=rfl;rw [e,hcc] at A1 A2;have HG:=Zh hdg;clear e hdd hdd2 hdg hr
     by_cases ho:(9223372036854775808 - (c - 48)) / 10 < q
     ·
      have Z:=Zh (A1.out ho);have hfin:=Zh (HF.out _ _ Z.out);clear A1 A2;have ho':((9223372036854775808:Int) - ((c:Int) - 48)) / 10 < q:=by omega
      go_wp2_with (go_at_call 276;refine (Zp s hs _ (by omega) (by omega) _ _ ?hc).mono ?_;(case hc=>simp);rintro e w1 ⟨rfl,rfl⟩;rw [Int.toNat_natCast,HG.out]);go_ret2;refine ⟨Yw ?_,Qj _ (.refl _ _)⟩;rw [hfin.out,show k - 1+1=k by omega];show Value.tuple #[.int .i64 _,.int .i64 k]=_;rw [kJD q (by omega)]
     ·
      have Z:=Zh (A2.out ho);clear A1 A2;have ho':¬ ((9223372036854775808:Int) - ((c:Int) - 48)) / 10 < q:=by omega
      have hq2:(q:Int)*10+((c:Int) - 48)<=9223372036854775808:=by omega
      go_wp2_with (go_at_call 276;refine (Zp s hs _ (by omega) (by omega) _ _ ?hc).mono ?_;(case hc=>simp);rintro e w1 ⟨rfl,rfl⟩;rw [Int.toNat_natCast,HG.out])
      go_round
      case rel=>exact ⟨k+1,q*10+(c - 48),by omega,by omega,by go_num,congrArg (Value.int .u64) (by omega),Z.out⟩
      case measure=>simp [intOf]<;>omega
    ·
     have hdf:Zq s.data.toList k=false:=by simpa using hdg
     have Z:=Zh (hr.out.done hdf);have hfin:=Zh (HF.out _ _ Z.out);have HG:=Zh hdf;clear hdf hdg hr;go_wp2_with (go_at_call 276;refine (Zp s hs _ (by omega) (by omega) _ _ ?hc).mono ?_;(case hc=>simp);rintro e w1 ⟨rfl,rfl⟩;rw [Int.toNat_natCast,HG.out]);go_ret2;refine ⟨Yw ?_,Qj _ (.refl _ _)⟩;rw [hfin.out,show k - 1+1=k by omega];show Value.tuple #[.int .i64 _,.int .i64 k]=_;rw [kJD q (by omega)]
  ·
   go_enter Tryz.func270,Tryz.ntmps270;go_wp2_with (first | (go_at_call 246;refine (Tryz.strings_HasPrefix _ _ _).mono ?_;rintro e w1 ⟨rfl,rfl⟩;rw [Jb,HP.out]) | (go_at_call 276;refine (Zp s hs _ (by omega) (by omega) _ _ ?hc).mono ?_;(case hc=>simp);rintro e w1 ⟨rfl,rfl⟩;rw [show (0:Int).toNat=0 from rfl,HD.out]));go_ret2;refine ⟨Yw (by rw [Z.out];rfl),?_⟩
   (repeat (first | exact Below.refl _ _ | assumption | refine Y0 ?_ | refine Qj _ ?_ | refine bset _ (by simp) ?_ | refine Qk (by assumption) ?_ | refine Grow.below (by assumption) ?_ | refine Tryst2.Grow.below (by assumption) ?_))
  ·
   go_enter Tryz.func270,Tryz.ntmps270;go_wp2_with (first | (go_at_call 246;refine (Tryz.strings_HasPrefix _ _ _).mono ?_;rintro e w1 ⟨rfl,rfl⟩;rw [Jb,HP.out]) | (go_at_call 276;refine (Zp s hs _ (by omega) (by omega) _ _ ?hc).mono ?_;(case hc=>simp);rintro e w1 ⟨rfl,rfl⟩;rw [show (0:Int).toNat=0 from rfl,HD.out]));go_ret2;refine ⟨Yw (by rw [Z.out];rfl),?_⟩
   (repeat (first | exact Below.refl _ _ | assumption | refine Y0 ?_ | refine Qj _ ?_ | refine bset _ (by simp) ?_ | refine Qk (by assumption) ?_ | refine Grow.below (by assumption) ?_ | refine Tryst2.Grow.below (by assumption) ?_))
  ·
   go_enter Tryz.func270,Tryz.ntmps270;go_wp2_with (first | (go_at_call 246;refine (Tryz.strings_HasPrefix _ _ _).mono ?_;rintro e w1 ⟨rfl,rfl⟩;rw [Jb,HP.out]) | (go_at_call 276;refine (Zp s hs _ (by omega) (by omega) _ _ ?hc).mono ?_;(case hc=>simp);rintro e w1 ⟨rfl,rfl⟩;rw [show (0:Int).toNat=0 from rfl,HD.out]))
   go_loop [6,8] (fun i n=>∃ (k q:Nat),k<=s.size/\q<=9223372036854775807/\i=.int .i64 k/\n=.int .u64 q/\Hid (jQB 9223372036854775807 s.data.toList 0 k q)) (fun i _=>s.size - (intOf i).toNat)
   case atStart=>exact ⟨0,0,by omega,by omega,rfl,rfl,.start _ _ _ (by simp<;>omega)⟩
   case round=>
    obtain ⟨k,q,hk,hq,rfl,rfl,hr⟩:=hrel;have hik:0<=k:=hr.out.1
    by_cases hdg:Zq s.data.toList k=true
    ·
     obtain ⟨hlt',hdd⟩:=jJW hdg;have hlt:k < s.size:=by simpa using hlt'
     have hdd2:Jx s[k]=true:=hdd;obtain ⟨c,hcc⟩:∃ c,s[k].toNat=c:=⟨_,rfl⟩
     have hcb:48<=c/\c<=57:=by
      unfold Jx at hdd2;rw [hcc] at hdd2
      simpa using hdd2
     obtain ⟨hc48,hc57⟩:=hcb;have A1:=Zh (hr.out.over hlt');have A2:=Zh (hr.out.step (by decide) hlt' hdd);have e:s.data.toList[k]=s[k]:=rfl;rw [e,hcc] at A1 A2;have HG:=Zh hdg;clear e hdd hdd2 hdg hr
     by_cases ho:(9223372036854775807 - (c - 48)) / 10 < q
     ·
      have Z:=Zh (A1.out ho);have hfin:=Zh (HF.out _ _ Z.out);clear A1 A2;have ho':((9223372036854775807:Int) - ((c:Int) - 48)) / 10 < q:=by omega
      go_wp2_with (go_at_call 276;refine (Zp s hs _ (by omega) (by omega) _ _ ?hc).mono ?_;(case hc=>simp);rintro e w1 ⟨rfl,rfl⟩;rw [Int.toNat_natCast,HG.out]);go_ret2;refine ⟨Yw ?_,Qj _ (.refl _ _)⟩;rw [hfin.out,show k - 0+0=k by omega];show Value.tuple #[.int .i64 _,.int .i64 k]=_;rfl
     ·
      have Z:=Zh (A2.out ho);clear A1 A2;have ho':¬ ((9223372036854775807:Int) - ((c:Int) - 48)) / 10 < q:=by omega
      have hq2:(q:Int)*10+((c:Int) - 48)<=9223372036854775807:=by omega
      go_wp2_with (go_at_call 276;refine (Zp s hs _ (by omega) (by omega) _ _ ?hc).mono ?_;(case hc=>simp);rintro e w1 ⟨rfl,rfl⟩;rw [Int.toNat_natCast,HG.out])
      go_round
      case rel=>exact ⟨k+1,q*10+(c - 48),by omega,by omega,by go_num,congrArg (Value.int .u64) (by omega),Z.out⟩
      case measure=>simp [intOf]<;>omega
    ·
     have hdf:Zq s.data.toList k=false:=by simpa using hdg
     have Z:=Zh (hr.out.done hdf);have hfin:=Zh (HF.out _ _ Z.out);have HG:=Zh hdf;clear hdf hdg hr;go_wp2_with (go_at_call 276;refine (Zp s hs _ (by omega) (by omega) _ _ ?hc).mono ?_;(case hc=>simp);rintro e w1 ⟨rfl,rfl⟩;rw [Int.toNat_natCast,HG.out]);go_ret2;refine ⟨Yw ?_,Qj _ (.refl _ _)⟩;rw [hfin.out,show k - 0+0=k by omega];show Value.tuple #[.int .i64 _,.int .i64 k]=_;rfl
theorem kJR (s:ByteArray) :
  (Hid (Lib.hasPrefix s.data.toList [34]=true)/\∃ t,Hid (jQb s.data.toList=(t,0))/\Hid (J0 s.data.toList=(V.zero,0)))∨
  (Hid (Lib.hasPrefix s.data.toList [34]=true)/\∃ t k,Hid (jQb s.data.toList=(t,k))/\((k:Int)==0)=false/\Hid (J0 s.data.toList=(⟨false,0,t⟩,k))/\Hid (k≠0))∨
  (Hid (Lib.hasPrefix s.data.toList [34]=false)/\∃ n,Hid (Q2 s.data.toList=(n,0))/\Hid (J0 s.data.toList=(V.zero,0)))∨
  (Hid (Lib.hasPrefix s.data.toList [34]=false)/\∃ n k,Hid (Q2 s.data.toList=(n,k))/\((k:Int)==0)=false/\Hid (J0 s.data.toList=(⟨true,n,[]⟩,k))/\Hid (k≠0)):=by
 generalize s.data.toList=l;cases l with
 | nil=>exact .inr (.inr (.inl ⟨rfl,0,rfl,rfl⟩))
 | cons c r=>
  by_cases h:c=34
  ·
   have hp:Lib.hasPrefix (c :: r) [34]=true:=by rw [h];rfl
   have hr:J0 (c :: r)=(match txtF r 0 with | some p=>(⟨false,0,p.1⟩,p.2+1) | none=>(V.zero,0)):=by
    unfold J0;simp only;rw [if_pos h];rfl
   have ht:jQb (c :: r)=(match txtF r 0 with | some p=>(p.1,p.2+1) | none=>([],0)):=rfl;cases hx:txtF r 0 with
   | none=>
    rw [hx] at hr ht;exact .inl ⟨hp,[],ht,hr⟩
   | some p=>
    rw [hx] at hr ht;exact .inr (.inl ⟨hp,p.1,p.2+1,ht,by simp;omega,hr,by unfold Hid;omega⟩)
  ·
   have hp:Lib.hasPrefix (c :: r) [34]=false:=by
    have:(34:UInt8)≠c:=fun e=>h e.symm
    simp [Lib.hasPrefix,List.isPrefixOf,this]
   have hr:J0 (c :: r)=if (Q2 (c :: r)).2=0 then (V.zero,0) else (⟨true,(Q2 (c :: r)).1,[]⟩,(Q2 (c :: r)).2):=by
    unfold J0;simp only;rw [if_neg h]
   by_cases hk:(Q2 (c :: r)).2=0
   · rw [if_pos hk] at hr;exact .inr (.inr (.inl ⟨hp,(Q2 (c :: r)).1,Prod.ext rfl hk,hr⟩))
   · rw [if_neg hk] at hr;exact .inr (.inr (.inr ⟨hp,_,_,rfl,by rw [beq_eq_false_iff_ne];exact fun e=>hk (Int.natCast_eq_zero.1 e),hr,hk⟩))
def kQo (k:Nat):Int:=if k=0 then 2 else 0
theorem vQv {k:Nat} (h:k≠0):kQo k=0:=by unfold kQo;rw [if_neg h]
theorem zJr (s:ByteArray) (hs:s.size<=1500000) (w:World) :
  Calls Tryz.prog 262 #[.string s] w fun e w'=>e=.returned (.tuple #[.agg #[.bool (J0 s.data.toList).1.num,.int .i64 (J0 s.data.toList).1.n,.string ⟨(J0 s.data.toList).1.s.toArray⟩],.int .i64 (J0 s.data.toList).2,.int .i64 (kQo (J0 s.data.toList).2)])/\Below w.heap.size w w':=by
 rcases kJR s with ⟨HP,t,T,R⟩ | ⟨HP,t,k,T,b1,R,hk⟩ | ⟨HP,n,T,R⟩ | ⟨HP,n,k,T,b1,R,hk⟩
 ·
  skip
  go_enter Tryz.func262,Tryz.ntmps262;go_wp2_with (first | (go_at_call 246;refine (Tryz.strings_HasPrefix _ _ _).mono ?_;rintro e w1 ⟨rfl,rfl⟩;rw [Jb,HP.out]) | (go_at_call 269;refine (vJf s hs _).mono ?_;rintro e w1 ⟨rfl,hb1⟩;rw [T.out];obtain ⟨hc1,hf1⟩:=Z8 hb1;have hz1:w.heap.size+1 < w1.heap.size:=(by have:=hb1.size;simp at this;omega);have hz2:w.heap.size < w1.heap.size:=(by omega)));rw [R.out];refine bodyPost_ret (v:=.tuple #[.agg #[.bool false,.int .i64 0,.string ⟨#[]⟩],.int .i64 0,.int .i64 2]) (by simp [results,Tryz.results262,go_sem,Qz, *]) rfl ⟨rfl,?_⟩
  (repeat (first | exact Below.refl _ _ | assumption | refine Y0 ?_ | refine Qj _ ?_ | refine bset _ (by simp) ?_ | refine Qk (by assumption) ?_ | refine Grow.below (by assumption) ?_ | refine Tryst2.Grow.below (by assumption) ?_))
 ·
  have he:=vQv hk.out;go_enter Tryz.func262,Tryz.ntmps262;go_wp2_with (first | (go_at_call 246;refine (Tryz.strings_HasPrefix _ _ _).mono ?_;rintro e w1 ⟨rfl,rfl⟩;rw [Jb,HP.out]) | (go_at_call 269;refine (vJf s hs _).mono ?_;rintro e w1 ⟨rfl,hb1⟩;rw [T.out];obtain ⟨hc1,hf1⟩:=Z8 hb1;have hz1:w.heap.size+1 < w1.heap.size:=(by have:=hb1.size;simp at this;omega);have hz2:w.heap.size < w1.heap.size:=(by omega)));rw [R.out];refine bodyPost_ret (v:=.tuple #[.agg #[.bool false,.int .i64 0,.string ⟨t.toArray⟩],.int .i64 k,.int .i64 (kQo k)]) (by simp [results,Tryz.results262,go_sem,Qz, *]) rfl ⟨rfl,?_⟩
  (repeat (first | exact Below.refl _ _ | assumption | refine Y0 ?_ | refine Qj _ ?_ | refine bset _ (by simp) ?_ | refine Qk (by assumption) ?_ | refine Grow.below (by assumption) ?_ | refine Tryst2.Grow.below (by assumption) ?_))
 ·
  skip
  go_enter Tryz.func262,Tryz.ntmps262;go_wp2_with (first | (go_at_call 246;refine (Tryz.strings_HasPrefix _ _ _).mono ?_;rintro e w1 ⟨rfl,rfl⟩;rw [Jb,HP.out]) | (go_at_call 270;refine (jJI s hs _).mono ?_;rintro e w1 ⟨rfl,hb1⟩;rw [T.out];obtain ⟨hc1,hf1⟩:=Z8 hb1;have hz1:w.heap.size+1 < w1.heap.size:=(by have:=hb1.size;simp at this;omega);have hz2:w.heap.size < w1.heap.size:=(by omega)));rw [R.out];refine bodyPost_ret (v:=.tuple #[.agg #[.bool false,.int .i64 0,.string ⟨#[]⟩],.int .i64 0,.int .i64 2]) (by simp [results,Tryz.results262,go_sem,Qz, *]) rfl ⟨rfl,?_⟩
  (repeat (first | exact Below.refl _ _ | assumption | refine Y0 ?_ | refine Qj _ ?_ | refine bset _ (by simp) ?_ | refine Qk (by assumption) ?_ | refine Grow.below (by assumption) ?_ | refine Tryst2.Grow.below (by assumption) ?_))
 ·
  have he:=vQv hk.out;go_enter Tryz.func262,Tryz.ntmps262;go_wp2_with (first | (go_at_call 246;refine (Tryz.strings_HasPrefix _ _ _).mono ?_;rintro e w1 ⟨rfl,rfl⟩;rw [Jb,HP.out]) | (go_at_call 270;refine (jJI s hs _).mono ?_;rintro e w1 ⟨rfl,hb1⟩;rw [T.out];obtain ⟨hc1,hf1⟩:=Z8 hb1;have hz1:w.heap.size+1 < w1.heap.size:=(by have:=hb1.size;simp at this;omega);have hz2:w.heap.size < w1.heap.size:=(by omega)));rw [R.out];refine bodyPost_ret (v:=.tuple #[.agg #[.bool true,.int .i64 n,.string ⟨#[]⟩],.int .i64 k,.int .i64 (kQo k)]) (by simp [results,Tryz.results262,go_sem,Qz, *]) rfl ⟨rfl,?_⟩
  (repeat (first | exact Below.refl _ _ | assumption | refine Y0 ?_ | refine Qj _ ?_ | refine bset _ (by simp) ?_ | refine Qk (by assumption) ?_ | refine Grow.below (by assumption) ?_ | refine Tryst2.Grow.below (by assumption) ?_))
