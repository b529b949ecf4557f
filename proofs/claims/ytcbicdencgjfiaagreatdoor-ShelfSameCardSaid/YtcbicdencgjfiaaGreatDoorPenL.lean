import Derived.Test.YtcbicdencgjfiaaGreatDoorEyeA
set_option linter.all false
set_option maxHeartbeats 2000000
set_option maxRecDepth 20000
namespace Go.Proofs.YtcbicdencgjfiaaGreatDoor
open Go.RowKit Tryst
theorem xQK {T:TypeId} (H:BT T) (B b:Nat) (l:List UInt8) (c:UInt8) (w:World) (h:BldT T w B b l) (hl:l.length<=1000000000) (hBw:B<=w.heap.size) :
  Calls Tryz.prog 163 #[.pointer (some ⟨b,0,none⟩),.int .u8 c.toNat] w fun e w'=>e=.returned .nilIface/\BldT T w' B b (l++[c])/\Below B w w'/\Kept b w w':=by
 obtain ⟨i0,hi,hz0,hz1,hz2⟩:=info_parts infoByte;have HB0:=Zh h;clear h;go_enter Tryz.func163,Tryz.ntmps163;go_wp2_with fail;refine (qJg H B b _ _ HB0.out).mono ?_;rintro e w1 ⟨rfl,h1,hb1,hk1⟩;obtain ⟨hB,v,hbk,hown,hne⟩:=h1;have c0:w1.cell? ⟨b,0,none⟩=some (.pointer (some ⟨b,0,none⟩)):=by rw [Lib.cell_of_heap hbk];rfl
 have c1:w1.cell? ⟨b,1,none⟩=some v:=by rw [Lib.cell_of_heap hbk];rfl
 have hle:(Lib.byteCells l).length<=1000000000:=by simp [Lib.byteCells];omega
 go_wp2_with (at_builtin;refine wpList_append_own _ rfl _ _ 77 rfl B 5 i0 (.int .u8 0) 1 1 Tryz.underlying77 hi hz0 hz1 hz2 rfl (by decide) _ _ _ rfl (hown.alloc _) ⟨w1.heap.size,0,none⟩ 1 1 [.int .u8 c.toNat] rfl rfl ?c1 ?c2 ?c3 ?c4 ?c5 ?_)
 case c1=>
  intro j u hj;cases j with
  | zero=>
   simp at hj;subst hj;simp [Addr.add_lit]
  | succ j=>simp at hj
 case c2=>intro u hu;simp at hu;subst hu;rfl
 case c3=>unfold maxLen;omega
 case c4=>omega
 case c5=>have:=hb1.size;simp;omega
 intro v' w2 hown' hgrow _
 have hlt:b < w1.heap.size:=by
  rcases Nat.lt_or_ge b w1.heap.size with h' | h'
  · exact h'
  · simp [Array.getElem?_eq_none h'] at hbk
 have hba:=Qj (.cells #[.int .u8 c.toNat] 5) (.refl w1.heap.size w1)
 have hb2:w2.heap[b]?=some (.cells #[.pointer (some ⟨b,0,none⟩),v] T (0,0)):=by
  rw [hgrow.block b (by simp;omega) (fun e=>hne e.symm)];exact (hba.block b hlt).trans hbk
 have d0:w2.cell? ⟨b,0,none⟩=some (.pointer (some ⟨b,0,none⟩)):=by rw [Lib.cell_of_heap hb2];rfl
 have d1:w2.cell? ⟨b,1,none⟩=some v:=by rw [Lib.cell_of_heap hb2];rfl
 have f1:w2.frozen? ⟨b,1,none⟩=false:=Lib.frozen_of_heap hb2 1;have hz1:=hb1.size
 obtain ⟨ao,n',cap,rfl⟩:∃ ao n' cap,v'=.slice ao n' cap:=by
  rcases hown'.2 with ⟨hv,_⟩ | ⟨g,cap,cur,hv,_⟩
  · exact ⟨_,_,_,hv⟩
  · exact ⟨_,_,_,hv⟩
 go_wp2;go_ret;refine ⟨rfl,.inr ?_,?_,?_⟩
 ·
  refine Lib.BuilderAt.put (T:=T) (e:=5) hB hb2 (bs':=Lib.byteCells (l++[c])) ?_ H.ne
  simpa [Lib.byteCells] using hown'
 · exact (((hb1.trans (hba.mono (by omega)))).grown hgrow (by simp;omega) (fun k hk=>(hown.lt k hk).1)).setCell (p:=⟨b,1,none⟩) hB _
 · have hk2:=Lib.OthersKept.below hk1 hba;exact (hk2.grown hgrow (Lib.ownsRow_kind (hown.alloc _))).setCell ⟨b,1,none⟩ rfl _
theorem btP:BT 81:=⟨by kernel_rfl,by decide⟩
structure PenS (W0 Y:World) (b:Nat) (l:List UInt8) (w:World):Prop where
 bld:BldT 81 w W0.heap.size b l
 low:Below W0.heap.size W0 w
 kept:Kept b Y w
theorem PenS.step {W0 Y w w':World} {b:Nat} {l l':List UInt8} (h:PenS W0 Y b l w) (h1:BldT 81 w' W0.heap.size b l') (h2:Below W0.heap.size w w') (h3:Kept b w w'):PenS W0 Y b l' w':=⟨h1,h.low.trans h2,h.kept.trans h3⟩
theorem PenS.quiet {W0 Y w w':World} {b:Nat} {l:List UInt8} (h:PenS W0 Y b l w) (hb:Below w.heap.size w w'):PenS W0 Y b l w':=⟨h.bld.grow hb,h.low.trans (hb.mono h.low.size),h.kept.trans (Kept.below hb)⟩
theorem PenS.enter {W0 Y w w':World} {b:Nat} {l:List UInt8} (h:PenS W0 Y b l w) (hb:Below w.heap.size w w'):PenS W0 w' b l w':=⟨h.bld.grow hb,h.low.trans (hb.mono h.low.size),Kept.refl _ _⟩
theorem PenS.leave {W0 Y Z w w':World} {b:Nat} {l l':List UInt8} (h:PenS W0 Y b l w) (hb:Below w.heap.size w Z) (k:PenS W0 Z b l' w'):PenS W0 Y b l' w':=⟨k.bld,k.low,h.kept.trans ((Kept.below hb).trans k.kept)⟩
theorem PenS.tto {W0 Y w:World} {b:Nat} {l l':List UInt8} (h:PenS W0 Y b l w) (e:l=l'):PenS W0 Y b l' w:=e ▸ h
def PenR (W0 Y:World) (b:Nat) (l:List UInt8) (e:Ending) (w:World):Prop:=e=.returned (.tuple #[])/\PenS W0 Y b l w
theorem jQD (n:Nat) (hn:n < 2 ^ 64) {W0 Y w:World} {b:Nat} {l:List UInt8} (h:PenS W0 Y b l w) (hl:l.length<=900000000) :
  Calls Tryz.prog 111 #[.pointer (some ⟨b,0,none⟩),.int .u64 n] w (PenR W0 Y b (l++pack n)):=by
 have H0:=Zh h;have hpl:(pack n).length<=10:=Jf _;have HP:=Zh (fun W=>zQM n W (by omega) (by omega));rw [Int.toNat_natCast] at HP;clear h;go_enter Tryz.func111,Tryz.ntmps111;go_wp2_with fail
 go_region_with (first | (go_at_call 164;refine (HP.out _).mono ?_;rintro e w1 ⟨rfl,hb1⟩;have H1:=Zh (H0.out.quiet (Qk hb1 (Y0 (.refl _ _))));clear hb1) | (go_at_call 162;refine (zQ3 btP W0.heap.size b _ _ _ H1.out.bld (by omega) (by rw [mk_size];omega) H1.out.low.size).mono ?_;rintro e w2 ⟨rfl,g1,g2,g3⟩;have H2:=Zh (H1.out.step g1 g2 g3);clear g1 g2 g3 H1))
 all_goals
  go_end0;exact ⟨rfl,H2.out⟩
theorem Jk (n:Int) (h0:-9223372036854775808<=n) (h1:n<=9223372036854775807) {W0 Y w:World} {b:Nat} {l:List UInt8} (h:PenS W0 Y b l w) (hl:l.length<=900000000) :
  Calls Tryz.prog 73 #[.pointer (some ⟨b,0,none⟩),.int .i64 n] w (PenR W0 Y b (l++numL n)):=by
 have H0:=Zh h;have HP:=Zh (fun W=>zJb n h0 h1 W);have hf:=jQS h0 h1;clear h;unfold numL;generalize fold n=m at HP hf ⊢;go_enter Tryz.func73,Tryz.ntmps73;go_wp2_with fail;refine (HP.out _).mono ?_;rintro e w1 ⟨rfl,rfl⟩;go_wp2_with fail;refine (jQD m hf H0.out hl).mono ?_;rintro e w2 ⟨rfl,h2⟩;go_wp2_with fail;go_end0;exact ⟨rfl,h2⟩
theorem Zg (s:ByteArray) {W0 Y w:World} {b:Nat} {l:List UInt8} (h:PenS W0 Y b l w) (hl:l.length+(strL s).length<=800000000) :
  Calls Tryz.prog 109 #[.pointer (some ⟨b,0,none⟩),.string s] w (PenR W0 Y b (l++strL s)):=by
 have H0:=Zh h;have hpl:(pack s.size).length<=10:=Jf _;clear h;unfold strL jQM at hl ⊢;rw [List.length_append,Qx] at hl;rw [Qx];go_enter Tryz.func109,Tryz.ntmps109;go_wp2_with fail;refine (jQD s.size (by omega) H0.out (by omega)).mono ?_;rintro e w1 ⟨rfl,h1⟩;have H1:=Zh h1;clear h1 H0;go_wp2_with fail;refine (zQ3 btP W0.heap.size b _ s _ H1.out.bld (by rw [List.length_append];omega) (by omega) H1.out.low.size).mono ?_;rintro e w2 ⟨rfl,g1,g2,g3⟩;have H2:=Zh (H1.out.step g1 g2 g3);clear g1 g2 g3 H1;go_wp2_with fail;go_end0;exact ⟨rfl,H2.out.tto (by rw [List.append_assoc])⟩
theorem kQO {T:TypeId} (H:BT T) (B b:Nat) (l:List UInt8) (c:UInt8) (x:Int) (hx:(c.toNat:Int)=x) (w:World) (h:BldT T w B b l) (hl:l.length<=1000000000) (hBw:B<=w.heap.size) :
  Calls Tryz.prog 163 #[.pointer (some ⟨b,0,none⟩),.int .u8 x] w fun e w'=>e=.returned .nilIface/\BldT T w' B b (l++[c])/\Below B w w'/\Kept b w w':=by
 subst hx;exact xQK H B b l c w h hl hBw
theorem xQx (x:Bool) {W0 Y w:World} {b:Nat} {l:List UInt8} (h:PenS W0 Y b l w) (hl:l.length<=900000000) :
  Calls Tryz.prog 110 #[.pointer (some ⟨b,0,none⟩),.bool x] w (PenR W0 Y b (l++zQG x)):=by
 have H0:=Zh h;clear h;unfold zQG;cases x
 all_goals
  go_enter Tryz.func110,Tryz.ntmps110;go_wp2_with fail
  first | (with_reducible refine (kQO btP W0.heap.size b _ 0 0 rfl _ H0.out.bld (by omega) H0.out.low.size).mono ?_) | with_reducible refine (kQO btP W0.heap.size b _ 1 1 rfl _ H0.out.bld (by omega) H0.out.low.size).mono ?_
  rintro e w2 ⟨rfl,g1,g2,g3⟩;have H2:=Zh (H0.out.step g1 g2 g3);clear g1 g2 g3 H0;go_wp2_with fail;go_end0;exact ⟨rfl,H2.out⟩
end Go.Proofs.YtcbicdencgjfiaaGreatDoor
namespace Go.Proofs.YtcbicdencgjfiaaGreatDoor
open Go.RowKit Tryst
def PLR {α:Type} (W0 Y:World) (b:Nat) (o:List UInt8) (f:α->List UInt8) (l:List α) (i:Value) (wr:World):Prop:=
 ∃ k:Nat,k<=l.length/\i=.int .i64 k/\Hid (PenS W0 Y b (o++pack l.length++(l.take k).flatMap f) wr)
theorem jJe (a:Option Addr) (c:Nat) (l:List ByteArray) {W0 Y w:World} {b:Nat} {o:List UInt8} (h:PenS W0 Y b o w) (hS:Strs W0 a l) (hl:o.length+(Qf strL l).length<=800000000) (hn:l.length<=1500000) :
  Calls Tryz.prog 139 #[.pointer (some ⟨b,0,none⟩),.slice a l.length c,.func (.func 109) #[.pointer (some ⟨b,0,none⟩)] #[]] w (PenR W0 Y b (o++Qf strL l)):=by
 have H0:=Zh h;have HS:=Zh hS;unfold Qf at hl ⊢;rw [List.length_append] at hl;have hpk:=Jf l.length;clear h hS;go_enter Tryz.func139,Tryz.ntmps139;go_wp2_with fail;refine (jQD l.length (by omega) H0.out (by omega)).mono ?_;rintro e w1 ⟨rfl,h1⟩;have H1:=Zh h1;clear h1 H0;go_wp2_with fail;go_loopw [15] (fun i wr=>PLR W0 Y b o strL l i wr) (fun i _=>l.length - (intOf i).toNat)
 case atStart=>exact ⟨0,by omega,rfl,Zh (by rw [List.take_zero,List.flatMap_nil,List.append_nil];exact H1.out)⟩
 case round=>
  clear H1;obtain ⟨k,hk,rfl,HP⟩:=hrel;obtain ⟨wo,rfl⟩:∃ wo,wo=wr:=⟨_,rfl⟩
  by_cases hlt:k < l.length
  ·
   obtain ⟨g,j,ha,hb⟩:=(HS.out.grow HP.out.low).head hlt;subst ha;have f0:=((HS.out.grow HP.out.low).at hlt).2;have hfl:=jQE strL hlt;have HFN:=Zh (Xy strL hlt);go_wp2_with fail;refine (Zg l[k] HP.out (by rw [List.length_append,List.length_append];omega)).mono ?_;rintro e w2 ⟨rfl,h2⟩;have H2:=Zh (h2.tto (l':=o++pack l.length++(l.take (k+1)).flatMap strL) (by rw [HFN.out,List.append_assoc _ _ (strL _)]));clear h2 HP HFN hfl f0;go_wp2_with fail;go_roundw
   case rel=>exact ⟨k+1,by omega,by go_num,H2⟩
   case measure=>simp [intOf]<;>omega
  · have H3:=Zh (HP.out.tto (l':=o++(pack l.length++l.flatMap strL)) (by rw [List.take_of_length_le (by omega),List.append_assoc]));go_wp2_with fail;go_end0;exact ⟨rfl,H3.out⟩
theorem zJS (x:PB) (hm:mayP x.pr=true) {W0 Y w:World} {b:Nat} {o:List UInt8} (h:PenS W0 Y b o w) (hM:MaxW W0) (hT:Tab W0) (hP:PMem W0 x) (hf:Zb x.pr) (hl:o.length+(Kz x.pr).length<=800000000) :
  Calls Tryz.prog 166 #[.pointer (some ⟨b,0,none⟩),x.agg] w (PenR W0 Y b (o++Kz x.pr)):=by
 have HT:=Zh (fun W (hb:Below W0.heap.size W0 W)=>jY3 x W (hM.grow hb) (hP.grow hb) hf (hT.grow hb));rw [hm] at HT;simp only [if_true] at HT;unfold Kz at hl ⊢;have H0:=Zh h;generalize Yk x.pr=tx at HT hl ⊢;clear h hM hT hP hf hm;obtain ⟨op,s,num,n,vs,a,c,l⟩:=x;unfold PB.agg at HT ⊢;simp only [PB.op,PB.s,PB.num,PB.n,PB.vs,PB.a,PB.c,PB.l] at HT ⊢;have B0:=Zh (Qj (.cells #[.string op,.string s,.bool num,.int .i64 n,.string vs,.slice a l.length c] 123) (.refl w.heap.size w));have H1:=Zh (H0.out.enter B0.out);go_enter Tryz.func166,Tryz.ntmps166;go_wp2_with fail;refine (HT.out _ H1.out.low).mono ?_;rintro e w2 ⟨rfl,hb2⟩;have H2:=Zh (H1.out.quiet hb2);clear hb2 H1;go_wp2_with fail;refine (Zg ⟨tx.toArray⟩ H2.out (by unfold strL;rw [Jb];exact hl)).mono ?_;rintro e w3 ⟨rfl,h3⟩;have H3:=Zh ((H0.out.leave B0.out h3).tto (l':=o++jQM tx) (by unfold strL;rw [Jb]));clear h3 H2;go_wp2_with fail;go_end0;exact ⟨rfl,H3.out⟩
theorem vJV (a:Option Addr) (c:Nat) (l:List PB) {W0 Y w:World} {b:Nat} {o:List UInt8} (h:PenS W0 Y b o w) (hM:MaxW W0) (hT:Tab W0) (hR:PRow W0 a c l) (hm:∀ p∈l,mayP p.pr=true) (hf:∀ p∈l,Zb p.pr) (hl:o.length+(Qf Kz (l.map PB.pr)).length<=800000000) (hn:l.length<=1500000) :
  Calls Tryz.prog 165 #[.pointer (some ⟨b,0,none⟩),.slice a l.length c,.func (.func 166) #[.pointer (some ⟨b,0,none⟩)] #[]] w (PenR W0 Y b (o++Qf Kz (l.map PB.pr))):=by
 have H0:=Zh h;have HS:=Zh hR;have HC:=Zh (fun (k:Nat) (hk:k < l.length) (Y wx:World) (ox:List UInt8) (hx:PenS W0 Y b ox wx) (hlx:ox.length+(Kz l[k].pr).length<=800000000)=>zJS l[k] (hm _ (List.getElem_mem hk)) hx hM hT (hR.po _ (List.getElem_mem hk)).1.mem (hf _ (List.getElem_mem hk)) hlx);unfold PB.agg at HC;unfold Qf at hl ⊢;rw [List.length_append,List.length_map] at hl;rw [List.length_map];have hpk:=Jf l.length;clear h hM hT hR hm hf;go_enter Tryz.func165,Tryz.ntmps165;go_wp2_with fail;refine (jQD l.length (by omega) H0.out (by omega)).mono ?_;rintro e w1 ⟨rfl,h1⟩;have H1:=Zh h1;clear h1 H0;go_wp2_with fail;go_loopw [15] (fun i wr=>PLR W0 Y b o Kz (l.map PB.pr) i wr) (fun i _=>l.length - (intOf i).toNat)
 case atStart=>exact ⟨0,by omega,rfl,Zh (by rw [List.take_zero,List.flatMap_nil,List.append_nil,List.length_map];exact H1.out)⟩
 case round=>
  clear H1;obtain ⟨k,hk,rfl,HP⟩:=hrel;rw [List.length_map] at hk HP;obtain ⟨wo,rfl⟩:∃ wo,wo=wr:=⟨_,rfl⟩
  by_cases hlt:k < l.length
  ·
   obtain ⟨g,j,ha,hb⟩:=(HS.out.grow HP.out.low).head hlt;subst ha;obtain ⟨_,f0,f1,f2,f3,f4,f5⟩:=Row.pat (HS.out.grow HP.out.low).row hlt;have hlt2:k < (l.map PB.pr).length:=by rw [List.length_map];exact hlt
   have hfl:=jQE Kz hlt2;have HFN:=Zh (Xy Kz hlt2);rw [List.getElem_map] at hfl HFN;have HK:=Zh (HC.out k hlt);have B0:=Zh (Qj (.cells #[.string l[k].op,.string l[k].s,.bool l[k].num,.int .i64 l[k].n,.string l[k].vs,.slice l[k].a l[k].l.length l[k].c] 123) (.refl wo.heap.size wo));have H1:=Zh (HP.out.enter B0.out);go_wp2_with fail;refine (HK.out _ _ _ H1.out (by rw [List.length_append,List.length_append];omega)).mono ?_;rintro e w2 ⟨rfl,h2⟩;have H2:=Zh ((HP.out.leave B0.out h2).tto (l':=o++pack l.length++((l.map PB.pr).take (k+1)).flatMap Kz) (by rw [HFN.out,List.append_assoc _ _ (Kz _)]));clear h2 HP HFN hfl f0 f1 f2 f3 f4 f5 HK B0 H1;go_wp2_with fail;go_roundw
   case rel=>exact ⟨k+1,by rw [List.length_map];omega,by go_num,Zh (by rw [List.length_map];exact H2.out)⟩
   case measure=>simp [intOf]<;>omega
  · have H3:=Zh (HP.out.tto (l':=o++(pack l.length++(l.map PB.pr).flatMap Kz)) (by rw [List.take_of_length_le (by rw [List.length_map];omega),List.append_assoc]));go_wp2_with fail;go_end0;exact ⟨rfl,H3.out⟩
