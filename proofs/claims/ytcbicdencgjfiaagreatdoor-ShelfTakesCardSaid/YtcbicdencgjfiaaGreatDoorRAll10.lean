import Derived.Deep.Upon
import Derived.Test.YtcbicdencgjfiaaGreatDoorDefU
import Derived.Test.YtcbicdencgjfiaaGreatDoorEyeT
import Derived.Test.YtcbicdencgjfiaaGreatDoorMayP16
import Derived.Test.YtcbicdencgjfiaaGreatDoorOffU
import Derived.Test.YtcbicdencgjfiaaGreatDoorPenL
import Derived.Test.YtcbicdencgjfiaaGreatDoorRChkJ
set_option linter.all false
set_option maxHeartbeats 8000000
set_option maxRecDepth 20000
namespace Tryst
open Go Go.Lib
def kYP (l:List OB):Nat->Option ByteArray
 | 0=>none
 | k+1=>(l[k]?).map OB.topic
theorem kYr {l:List OB} {k:Nat} (hk:k < l.length):kYP l (k+1)=some l[k].topic:=by
 show (l[k]?).map OB.topic=_;rw [List.getElem?_eq_getElem hk];rfl
theorem vY5 {l:List OB} {k:Nat} (hk:k < l.length):okO (kYP l k) (l.drop k)=(oMay l[k]&&((match kYP l k with | none=>true | some q=>Kf q l[k].topic)&&okO (kYP l (k+1)) (l.drop (k+1)))):=by
 rw [List.drop_eq_getElem_cons hk,kYr hk];cases kYP l k<;>rfl
theorem vYK {l:List OB} {k:Nat} (hk:l.length<=k):okO (kYP l k) (l.drop k)=true:=by
 rw [List.drop_eq_nil_of_le hk];cases kYP l k<;>rfl
end Tryst
namespace Go.Proofs.YtcbicdencgjfiaaGreatDoor
open Go.RowKit Tryst
def vYN (w:World) (l:List OB) (R:Bool) (i:Value) (wr:World):Prop:=∃ k:Nat,k<=l.length/\i=.int .i64 k/\Hid (R=okO (kYP l k) (l.drop k))/\Hid (Below w.heap.size w wr)
theorem zYm (a:Option Addr) (c:Nat) (l:List OB) (hl:l.length<=1500000) (hs:∀ x∈l,x.topic.size<=1500000) (w:World) (hO:Offs w a l) :
  Calls Tryz.prog 88 #[.slice a l.length c] w fun e w'=>e=.returned (.bool (vQ9 l))/\Below w.heap.size w w':=by
 have HF:=Zh (fun W (hb:Below w.heap.size w W)=>OfR.mk (Row.grow hO hb));have HC:=Zh (fun (k:Nat) (hk:k < l.length) W=>Y2 l[k].topic (hs _ (List.getElem_mem hk)) W);obtain ⟨R,hR⟩:∃ R,okO none l=R:=⟨_,rfl⟩;unfold vQ9;rw [hR];have HR:Hid (R=okO (kYP l 0) (l.drop 0)):=Zh (by rw [<- hR];rfl);clear hO hR hs;go_enter Tryz.func88,Tryz.ntmps88;go_wp2_with fail;go_loopw [3] (fun i wr=>vYN w l R i wr) (fun i _=>l.length - (intOf i).toNat)
 case atStart=>exact ⟨0,by omega,rfl,HR,.refl _ _⟩
 case round=>
  clear HR;obtain ⟨k,hk,rfl,HP,HW⟩:=hrel;obtain ⟨wo,rfl⟩:∃ wo,wo=wr:=⟨_,rfl⟩
  by_cases hlt:k < l.length
  ·
   obtain ⟨b,o,ha,hb⟩:=(HF.out wo HW.out).head hlt;subst ha;obtain ⟨_,f0,f1⟩:=(HF.out wo HW.out).r.at hlt;have hst:=vY5 hlt;rw [<- HP.out] at hst;have HCC:=Zh (HC.out k hlt);have hmy:oMay l[k]=(Yx l[k].topic.data.toList&&decide (0<=l[k].next)):=rfl;rw [hmy] at hst;obtain ⟨tb,htb⟩:∃ b,Yx l[k].topic.data.toList=b:=⟨_,rfl⟩;rw [htb] at hst HCC;have HST:=Zh hst;clear hst hmy htb HP;go_upto_region 4 with fail
   cases tb with
   | false=>
    have HN:Hid (R=false):=Zh (by rw [HST.out];rfl);clear HST;refine Tryst2.wp_region_grows [.is (.slice (some ⟨b,o,none⟩) l.length c),.is (.int .i64 (k:Int)),.is (.pointer (some ⟨b,o+k*2,none⟩)),.is (.pointer (some ⟨b,o+k*2,none⟩)),.is (.string l[k].topic),.is (.bool false),.is (.bool true),.is (.bool true),.is undef,.is undef,.is undef,.is undef,.is undef,.is undef,.is (.bool true),.is (.bool true),.is undef,.is undef,.is undef,.is undef,.is undef,.is undef,.is undef,.is undef,.is undef,.is undef,.is undef,.is undef,.is undef,.is undef,.is undef,.is undef,.is (.bool true)] (by kernel_rfl) (by kernel_rfl) ?obl ?fin
    case obl=>
     simp only [YA,YL,YO,YR,Op.operands,Call.operands]
     repeat' apply And.intro
     any_goals trivial
     all_goals (intro tv w' hg hold hd;(try simp at hold);obtain ⟨hcg,hfg,hsg⟩:=YG hg)
     all_goals first | (go_simp;done) | (go_simp;rw [if_neg (by omega)];exact ⟨.refl _,rfl⟩) | (obtain ⟨⟨g,hvg,hgg,hcell⟩,_⟩:=hd;have hcell0:=hcell 0 (by decide);simp at hcell0;go_simp;done) | (go_simp;go_at_call 84;(with_reducible refine (HCC.out _).mono ?_);rintro e w5 ⟨rfl,hb5⟩;exact ⟨hb5,rfl⟩)
    case fin=>
     intro tv w' hg hR;simp only [YF,YL,YR] at hR;obtain ⟨hcg,hfg,hsg⟩:=YG hg;simp only [YP,YL,Act.put,hR];have HB9:=Zh (Qk (Tryst2.Grow.below hg (.refl _ _)) HW.out);clear hg hR hcg hfg hsg;go_wp2_with fail;go_ret;exact ⟨Qq (by rw [HN.out,Bool.and_false]),HB9.out⟩
   | true=>
    by_cases hnx:l[k].next < 0
    ·
     have HN:Hid (R=false):=Zh (by rw [HST.out,decide_eq_false (by omega)];rfl);clear HST;refine Tryst2.wp_region_grows [.is (.slice (some ⟨b,o,none⟩) l.length c),.is (.int .i64 (k:Int)),.is (.pointer (some ⟨b,o+k*2,none⟩)),.is (.pointer (some ⟨b,o+k*2,none⟩)),.is (.string l[k].topic),.is (.bool true),.is (.bool false),.is (.bool false),.is (.slice (some ⟨b,o,none⟩) l.length c),.is (.int .i64 (k:Int)),.is (.pointer (some ⟨b,o+k*2,none⟩)),.is (.pointer (some ⟨b,o+k*2+1,none⟩)),.is (.int .i64 l[k].next),.is (.bool true),.is (.bool true),.is (.bool true),.is undef,.is undef,.is undef,.is undef,.is undef,.is undef,.is undef,.is undef,.is undef,.is undef,.is undef,.is undef,.is undef,.is undef,.is undef,.is undef,.is (.bool true)] (by kernel_rfl) (by kernel_rfl) ?obl ?fin
     case obl=>
      simp only [YA,YL,YO,YR,Op.operands,Call.operands]
      repeat' apply And.intro
      any_goals trivial
      all_goals (intro tv w' hg hold hd;(try simp at hold);obtain ⟨hcg,hfg,hsg⟩:=YG hg)
      all_goals first | (go_simp;done) | (go_simp;rw [if_neg (by omega)];exact ⟨.refl _,rfl⟩) | (obtain ⟨⟨g,hvg,hgg,hcell⟩,_⟩:=hd;have hcell0:=hcell 0 (by decide);simp at hcell0;go_simp;done) | (go_simp;go_at_call 84;(with_reducible refine (HCC.out _).mono ?_);rintro e w5 ⟨rfl,hb5⟩;exact ⟨hb5,rfl⟩)
     case fin=>
      intro tv w' hg hR;simp only [YF,YL,YR] at hR;obtain ⟨hcg,hfg,hsg⟩:=YG hg;simp only [YP,YL,Act.put,hR];have HB9:=Zh (Qk (Tryst2.Grow.below hg (.refl _ _)) HW.out);clear hg hR hcg hfg hsg;go_wp2_with fail;go_ret;exact ⟨Qq (by rw [HN.out,Bool.and_false]),HB9.out⟩
    ·
     have HS2:Hid (R=((match kYP l k with | none=>true | some q=>Kf q l[k].topic)&&okO (kYP l (k+1)) (l.drop (k+1)))):=Zh (by
      have:=HST.out
      rwa [decide_eq_true (show 0<=l[k].next by omega),Bool.true_and,Bool.true_and] at this)
     clear HST
     by_cases hk0:k=0
     ·
      subst hk0;have q0:(0:Int) < (l.length:Int):=by omega
      simp only [Nat.zero_mul,Nat.add_zero] at f0 f1;have HN:Hid (R=okO (kYP l (0+1)) (l.drop (0+1))):=Zh (by have:=HS2.out;exact this.trans (Bool.true_and _));clear HS2;refine Tryst2.wp_region_grows [.is (.slice (some ⟨b,o,none⟩) l.length c),.is (.int .i64 0),.is (.pointer (some ⟨b,o,none⟩)),.is (.pointer (some ⟨b,o,none⟩)),.is (.string l[0].topic),.is (.bool true),.is (.bool false),.is (.bool false),.is (.slice (some ⟨b,o,none⟩) l.length c),.is (.int .i64 0),.is (.pointer (some ⟨b,o,none⟩)),.is (.pointer (some ⟨b,o+1,none⟩)),.is (.int .i64 l[0].next),.is (.bool false),.is (.bool false),.is (.bool false),.is (.int .i64 0),.is (.bool false),.is (.bool false),.is undef,.is undef,.is undef,.is undef,.is undef,.is undef,.is undef,.is undef,.is undef,.is undef,.is undef,.is undef,.is (.bool false),.is (.bool false)] (by kernel_rfl) (by kernel_rfl) ?obl ?fin
      case obl=>
       simp only [YA,YL,YO,YR,Op.operands,Call.operands]
       repeat' apply And.intro
       any_goals trivial
       all_goals (intro tv w' hg hold hd;(try simp at hold);obtain ⟨hcg,hfg,hsg⟩:=YG hg)
       all_goals first | (go_simp;done) | (go_simp;rw [if_neg (by omega)];exact ⟨.refl _,rfl⟩) | (obtain ⟨⟨g,hvg,hgg,hcell⟩,_⟩:=hd;have hcell0:=hcell 0 (by decide);simp at hcell0;go_simp;done) | (go_simp;go_at_call 84;(with_reducible refine (HCC.out _).mono ?_);rintro e w5 ⟨rfl,hb5⟩;exact ⟨hb5,rfl⟩)
      case fin=>
       intro tv w' hg hR;simp only [YF,YL,YR] at hR;obtain ⟨hcg,hfg,hsg⟩:=YG hg;simp only [YP,YL,Act.put,hR];have HB9:=Zh (Qk (Tryst2.Grow.below hg (.refl _ _)) HW.out);clear hg hR hcg hfg hsg;go_wp2_with fail;go_roundw
       case rel=>exact ⟨0+1,by omega,by go_num,HN,HB9⟩
       case measure=>simp [intOf]<;>omega
     ·
      obtain ⟨m,hm⟩:∃ m,k=m+1:=⟨k - 1,by omega⟩;have hlm:m < l.length:=by omega
      have y1:(0:Int) < (k:Int):=by omega
      have y4:(m:Int) < (l.length:Int):=by omega
      have y5:(0:Int)<=(m:Int):=by omega
      have y6:0 < k:=by omega
      have HM:=Zh hm;obtain ⟨_,g0,g1⟩:=(HF.out wo HW.out).r.at hlm;have HGE:=geB l[m].topic l[k].topic;have hpv:=kYr hlm;rw [<- hm] at hpv;clear hm hk0;have HS3:Hid (R=(Kf l[m].topic l[k].topic&&okO (kYP l (k+1)) (l.drop (k+1)))):=Zh (by have:=HS2.out;rw [hpv] at this;exact this);clear hpv HS2;generalize Kf l[m].topic l[k].topic=lb at HS3 HGE;cases lb with
      | false=>
       have HN:Hid (R=false):=Zh (HS3.out.trans (Bool.false_and _));have hge:(!Op.bytesLess l[m].topic.toList l[k].topic.toList)=true:=HGE;clear HGE HS3;refine Tryst2.wp_region_grows [.is (.slice (some ⟨b,o,none⟩) l.length c),.is (.int .i64 (k:Int)),.is (.pointer (some ⟨b,o+k*2,none⟩)),.is (.pointer (some ⟨b,o+k*2,none⟩)),.is (.string l[k].topic),.is (.bool true),.is (.bool false),.is (.bool false),.is (.slice (some ⟨b,o,none⟩) l.length c),.is (.int .i64 (k:Int)),.is (.pointer (some ⟨b,o+k*2,none⟩)),.is (.pointer (some ⟨b,o+k*2+1,none⟩)),.is (.int .i64 l[k].next),.is (.bool false),.is (.bool false),.is (.bool false),.is (.int .i64 (k:Int)),.is (.bool true),.is (.bool true),.is (.slice (some ⟨b,o,none⟩) l.length c),.is (.int .i64 (k:Int)),.is (.int .i64 (m:Int)),.is (.pointer (some ⟨b,o+m*2,none⟩)),.is (.pointer (some ⟨b,o+m*2,none⟩)),.is (.string l[m].topic),.is (.slice (some ⟨b,o,none⟩) l.length c),.is (.int .i64 (k:Int)),.is (.pointer (some ⟨b,o+k*2,none⟩)),.is (.pointer (some ⟨b,o+k*2,none⟩)),.is (.string l[k].topic),.is (.bool true),.is (.bool true),.is (.bool true)] (by kernel_rfl) (by kernel_rfl) ?obl ?fin
       case obl=>
        simp only [YA,YL,YO,YR,Op.operands,Call.operands]
        repeat' apply And.intro
        any_goals trivial
        all_goals (intro tv w' hg hold hd;(try simp at hold);obtain ⟨hcg,hfg,hsg⟩:=YG hg)
        all_goals first | (go_simp;done) | (go_simp;rw [if_neg (by omega)];exact ⟨.refl _,rfl⟩) | (obtain ⟨⟨g,hvg,hgg,hcell⟩,_⟩:=hd;have hcell0:=hcell 0 (by decide);simp at hcell0;go_simp;done) | (go_simp;go_at_call 84;(with_reducible refine (HCC.out _).mono ?_);rintro e w5 ⟨rfl,hb5⟩;exact ⟨hb5,rfl⟩) | (go_simp;have hm:=HM.out;first | omega | (rw [IntWalk.i64_in _ (by omega)];omega))
       case fin=>
        intro tv w' hg hR;simp only [YF,YL,YR] at hR;obtain ⟨hcg,hfg,hsg⟩:=YG hg;simp only [YP,YL,Act.put,hR];have HB9:=Zh (Qk (Tryst2.Grow.below hg (.refl _ _)) HW.out);clear hg hR hcg hfg hsg;go_wp2_with fail;go_ret;exact ⟨Qq (by rw [HN.out,Bool.and_false]),HB9.out⟩
      | true=>
       have HN:Hid (R=okO (kYP l (k+1)) (l.drop (k+1))):=Zh (HS3.out.trans (Bool.true_and _));have hge:(!Op.bytesLess l[m].topic.toList l[k].topic.toList)=false:=HGE;clear HGE HS3;refine Tryst2.wp_region_grows [.is (.slice (some ⟨b,o,none⟩) l.length c),.is (.int .i64 (k:Int)),.is (.pointer (some ⟨b,o+k*2,none⟩)),.is (.pointer (some ⟨b,o+k*2,none⟩)),.is (.string l[k].topic),.is (.bool true),.is (.bool false),.is (.bool false),.is (.slice (some ⟨b,o,none⟩) l.length c),.is (.int .i64 (k:Int)),.is (.pointer (some ⟨b,o+k*2,none⟩)),.is (.pointer (some ⟨b,o+k*2+1,none⟩)),.is (.int .i64 l[k].next),.is (.bool false),.is (.bool false),.is (.bool false),.is (.int .i64 (k:Int)),.is (.bool true),.is (.bool true),.is (.slice (some ⟨b,o,none⟩) l.length c),.is (.int .i64 (k:Int)),.is (.int .i64 (m:Int)),.is (.pointer (some ⟨b,o+m*2,none⟩)),.is (.pointer (some ⟨b,o+m*2,none⟩)),.is (.string l[m].topic),.is (.slice (some ⟨b,o,none⟩) l.length c),.is (.int .i64 (k:Int)),.is (.pointer (some ⟨b,o+k*2,none⟩)),.is (.pointer (some ⟨b,o+k*2,none⟩)),.is (.string l[k].topic),.is (.bool false),.is (.bool false),.is (.bool false)] (by kernel_rfl) (by kernel_rfl) ?obl ?fin
       case obl=>
        simp only [YA,YL,YO,YR,Op.operands,Call.operands]
        repeat' apply And.intro
        any_goals trivial
        all_goals (intro tv w' hg hold hd;(try simp at hold);obtain ⟨hcg,hfg,hsg⟩:=YG hg)
        all_goals first | (go_simp;done) | (go_simp;rw [if_neg (by omega)];exact ⟨.refl _,rfl⟩) | (obtain ⟨⟨g,hvg,hgg,hcell⟩,_⟩:=hd;have hcell0:=hcell 0 (by decide);simp at hcell0;go_simp;done) | (go_simp;go_at_call 84;(with_reducible refine (HCC.out _).mono ?_);rintro e w5 ⟨rfl,hb5⟩;exact ⟨hb5,rfl⟩) | (go_simp;have hm:=HM.out;first | omega | (rw [IntWalk.i64_in _ (by omega)];omega))
       case fin=>
        intro tv w' hg hR;simp only [YF,YL,YR] at hR;obtain ⟨hcg,hfg,hsg⟩:=YG hg;simp only [YP,YL,Act.put,hR];have HB9:=Zh (Qk (Tryst2.Grow.below hg (.refl _ _)) HW.out);clear hg hR hcg hfg hsg;go_wp2_with fail;go_roundw
        case rel=>exact ⟨k+1,by omega,by go_num,HN,HB9⟩
        case measure=>simp [intOf]<;>omega
  ·
   have HN:=Zh (HP.out.trans (vYK (by omega:l.length<=k)))
   have HLE:Hid (decide (l.length<=20)=decide ((l.length:Int)<=20)):=Zh (by
    by_cases h:l.length<=20
    · rw [decide_eq_true h,decide_eq_true (by omega)]
    · rw [decide_eq_false h,decide_eq_false (by omega)])
   go_wp2_with fail;go_ret;exact ⟨Qq (by rw [HN.out,Bool.and_true,HLE.out]),HW.out⟩
end Go.Proofs.YtcbicdencgjfiaaGreatDoor
namespace Tryst
open Go Go.Lib
theorem kYi {l:List OB} {n:ByteArray} {k:Nat} (hk:k < l.length):(l.take (k+1)).any (isO n)=((l.take k).any (isO n)||isO n l[k]):=by
 rw [List.take_succ_eq_append_getElem hk,List.any_append];simp
end Tryst
namespace Go.Proofs.YtcbicdencgjfiaaGreatDoor
open Go.RowKit Tryst
end Go.Proofs.YtcbicdencgjfiaaGreatDoor
namespace Go.Proofs.YtcbicdencgjfiaaGreatDoor
open Go.RowKit Tryst
section
variable {w w':World} {g:Nat} {nm:ByteArray} {G U:Value} {ky kd:ByteArray} {p n x:Int}
theorem DX.away (h:DX w g nm G U ky kd p n x) {c o:Nat} (hc:c≠g) (v:Value):DX (w.setCell ⟨c,o,none⟩ v) g nm G U ky kd p n x:=(Below.heap_setCell _ _ _ _ (fun e=>hc e.symm)).trans h
theorem DX.set1 (h:DX w g nm G U ky kd p n x) (v:Value):DX (w.setCell ⟨g,1,none⟩ v) g nm v U ky kd p n x:=by
 unfold DX at h ⊢;simp [World.setCell,Array.getElem?_modify,h]
theorem DX.set2 (h:DX w g nm G U ky kd p n x) (v:Value):DX (w.setCell ⟨g,2,none⟩ v) g nm G v ky kd p n x:=by
 unfold DX at h ⊢;simp [World.setCell,Array.getElem?_modify,h]
theorem DX.fz (h:DX w g nm G U ky kd p n x) (j:Nat):w.frozen? ⟨g,j,none⟩=false:=by
 unfold DX at h;simp [World.frozen?,h]
theorem DX.growB {B:Nat} (h:DX w g nm G U ky kd p n x) (hg:g < B) (hb:Below B w w'):DX w' g nm G U ky kd p n x:=(hb.block g hg).trans h
end
theorem Strs.keepB {w w':World} {a:Option Addr} {l:List ByteArray} (h:Strs w a l) (hb:∀ b o,a=some ⟨b,o,none⟩->w'.heap[b]?=w.heap[b]?) (hz:w.heap.size<=w'.heap.size):Strs w' a l:=by
 intro i hi;obtain ⟨b,o,h1,h2,h3⟩:=h i hi;exact ⟨b,o,h1,Nat.lt_of_lt_of_le h2 hz,(World.cell?_of_block (w:=w) (a:=⟨b,o+i,none⟩) (hb b o h1)).trans h3⟩
section
variable {w v v':World} {g:Nat} {nm:ByteArray} {G U:Value} {ky kd:ByteArray} {p n x:Int} {nm1:ByteArray} {G1 U1:Value} {ky1 kd1:ByteArray}
end
end Go.Proofs.YtcbicdencgjfiaaGreatDoor
namespace Go.Proofs.YtcbicdencgjfiaaGreatDoor
open Go.RowKit Tryst
structure DOB (base:Nat) (w:World) (d:DB):Prop where
 o:DO w d
 ga:∀ b o,d.ga=some ⟨b,o,none⟩->base<=b
 wa:∀ b o,d.wa=some ⟨b,o,none⟩->base<=b
 ps:∀ p∈d.wl,POwn w (fun b=>base<=b) p/\J9 p<=50
 g6:d.gl.length<=6
 w7:d.wl.length<=7
theorem DOB.grow {base:Nat} {v w:World} {d:DB} (h:DOB base v d) (hb:Below v.heap.size v w):DOB base w d:=⟨h.o.grow hb,h.ga,h.wa,fun p hp=>⟨(h.ps p hp).1.grow hb (fun _ h=>h),(h.ps p hp).2⟩,h.g6,h.w7⟩
theorem DOB.keep {base:Nat} {v w:World} {d:DB} (h:DOB base v d) (hk:∀ b,base<=b->w.heap[b]?=v.heap[b]?) (hz:v.heap.size<=w.heap.size):DOB base w d:=by
 have hp:∀ p∈d.wl,POwn w (fun b=>base<=b) p/\J9 p<=50:=fun p hp=>⟨(h.ps p hp).1.keep (fun b hb _=>⟨hk b hb,hb⟩) hz,(h.ps p hp).2⟩
 exact ⟨⟨h.o.hn,h.o.hg,h.o.hgs,Strs.keepB h.o.gS (fun b o e=>hk b (h.ga b o e)) hz,h.o.gL,h.o.hw,⟨h.o.wR.row.block (fun b o e=>hk b (h.wa b o e)) hz,h.o.wR.sl,fun p hp'=>⟨(hp p hp').1.grow (.refl _ _) (fun _ _=>trivial),(hp p hp').2⟩⟩,h.o.hk⟩,h.ga,h.wa,hp,h.g6,h.w7⟩
end Go.Proofs.YtcbicdencgjfiaaGreatDoor
namespace Tryst4
open Go Go.RowKit Tryst2
inductive Rsp where
 | is (v:Value)
 | own (p:Nat->Nat->Value->World->Prop)
 | box (T:TypeId) (n:Nat)
 | same (j:Nat)
 | dep (js:List Nat) (p:(Nat->Value)->Nat->Nat->Value->World->Prop)
 | put (k j:Nat) (T:TypeId) (n:Nat)
def cellsOf:Value->List Value
 | .agg a=>a.toList
 | v=>[v]
def val (dsts:List (Option Nat)) (tv:Nat->Value) (i:Nat):Value:=match (dsts[i]?).bind id with
 | some d=>tv d
 | none=>undef
structure Same (base lo hi:Nat) (x y:World):Prop where
 size:x.heap.size<=y.heap.size
 block:∀ b,(b < base∨(lo<=b/\b < hi))->b < x.heap.size->y.heap[b]?=x.heap[b]?
structure Only (g:Nat) (x y:World):Prop where
 os:y.os=x.os
 tape:y.tape=x.tape
 output:y.output=x.output
 size:y.heap.size=x.heap.size
 block:∀ b,b≠g->y.heap[b]?=x.heap[b]?
def mask (js:List Nat) (f:Nat->Value):Nat->Value:=fun k=>if js.contains k=true then f k else undef
theorem vQA {js:List Nat} {f g:Nat->Value} (h:∀ j∈js,f j=g j):mask js f=mask js g:=by
 funext k
 unfold mask
 by_cases hk:js.contains k=true
 · rw [if_pos hk,if_pos hk,h k (by simpa using hk)]
 · rw [if_neg hk,if_neg hk]
def Rsp.R (base:Nat) (dsts:List (Option Nat)) (tv:Nat->Value) (lo hi:Nat->Nat) (w:World) (i:Nat):Rsp->Prop
 | .is c=>val dsts tv i=c
 | .own p=>∃ w0,Same base (lo i) (hi i) w0 w/\p (lo i) (hi i) (val dsts tv i) w0
 | .box T n=>∃ g cs,val dsts tv i=.pointer (some ⟨g,0,none⟩)/\lo i<=g/\g < hi i/\w.heap[g]?=some (.cells cs T (0,0))/\cs.size=n
 | .same j=>val dsts tv i=val dsts tv j
 | .dep js p=>∃ w0,Same base (lo i) (hi i) w0 w/\p (mask js (val dsts tv)) (lo i) (hi i) (val dsts tv i) w0
 | .put k j T _=>∃ g,val dsts tv k=.pointer (some ⟨g,0,none⟩)/\lo k<=g/\g < hi k/\w.heap[g]?=some (.cells (cellsOf (val dsts tv j)).toArray T (0,0))
def Rsp.made (dsts:List (Option Nat)) (tv:Nat->Value) (w:World) (v:Value) (w':World):Rsp->Prop
 | .is c=>Grow w w'/\v=c
 | .own p=>Grow w w'/\p w.heap.size w'.heap.size v w'
 | .box T n=>Grow w w'/\∃ g cs,v=.pointer (some ⟨g,0,none⟩)/\w.heap.size<=g/\w'.heap[g]?=some (.cells cs T (0,0))/\cs.size=n
 | .same j=>Grow w w'/\v=val dsts tv j
 | .dep js p=>Grow w w'/\p (mask js (val dsts tv)) w.heap.size w'.heap.size v w'
 | .put k j T n=>∀ g,val dsts tv k=.pointer (some ⟨g,0,none⟩)->Only g w w'/\w'.heap[g]?=some (.cells (cellsOf (val dsts tv j)).toArray T (0,0))/\(cellsOf (val dsts tv j)).length=n
def vYl (base:Nat) (rs:List Rsp) (dsts:List (Option Nat)) (tv:Nat->Value) (lo hi:Nat->Nat) (w:World):List Nat->Prop
 | []=>True
 | j :: l=>(match rs[j]? with | some r=>r.R base dsts tv lo hi w j | none=>True)/\vYl base rs dsts tv lo hi w l
def Obl (P:Program) (a0:Act) (w0:World) (rs:List Rsp) (dsts:List (Option Nat)) (o:Oper) (r:Rsp):Prop:=
 ∀ (tv:Nat->Value) (lo hi:Nat->Nat) (w':World),Grow w0.drew w'→kQz (dsts.take rs.length) a0 tv (zQO o)->vYl w0.heap.size rs dsts tv lo hi w' (zQK o)->
  if K9 dsts tv o.guard=true then jQW P (fun v w''=>r.made dsts tv w' v w'') ((execOp (evOf tv) o).run P w') else r.made dsts tv w' undef w'
def vYj (P:Program) (a0:Act) (w0:World) (rs:List Rsp) (dsts:List (Option Nat)):List Oper->List Rsp->Prop
 | o :: os,r :: l=>Obl P a0 w0 rs dsts o r/\vYj P a0 w0 rs dsts os l
 | _,_=>True
theorem vYj.at {P:Program} {a0:Act} {w0:World} {rs:List Rsp} {dsts:List (Option Nat)}:∀ (os:List Oper) (l:List Rsp),vYj P a0 w0 rs dsts os l->∀ (i:Nat) o r,os[i]?=some o->l[i]?=some r->Obl P a0 w0 rs dsts o r
 | [],_,_,i,o,r,ho,_=>by simp at ho
 | _ :: _,[],_,i,o,r,_,hr=>by simp at hr
 | x :: os,y :: l,h,i,o,r,ho,hr=>by
  cases i with
  | zero=>
   simp only [List.getElem?_cons_zero,Option.some.injEq] at ho hr;subst ho;subst hr;exact h.1
  | succ i=>exact vYj.at os l h.2 i o r (by simpa using ho) (by simpa using hr)
theorem Rsp.R.keep {base:Nat} {dsts:List (Option Nat)} {tv tv':Nat->Value} {lo hi lo' hi':Nat->Nat} {w w':World} {i:Nat} {r:Rsp} (h:r.R base dsts tv lo hi w i)
  (hv:val dsts tv' i=val dsts tv i) (hl:lo' i=lo i/\hi' i=hi i) (hk:∀ k j T n,r=.put k j T n->val dsts tv' k=val dsts tv k/\val dsts tv' j=val dsts tv j/\lo' k=lo k/\hi' k=hi k/\∀ b,lo k<=b->b < hi k->b < w.heap.size->w'.heap[b]?=w.heap[b]?)
  (hs:∀ j,r=.same j->val dsts tv' j=val dsts tv j) (hd:∀ js p,r=.dep js p->∀ j∈js,val dsts tv' j=val dsts tv j) (hz:w.heap.size<=w'.heap.size) (hb:(∀ k j T n,r≠.put k j T n)->∀ b,b < base∨(lo i<=b/\b < hi i)->b < w.heap.size->w'.heap[b]?=w.heap[b]?):r.R base dsts tv' lo' hi' w' i:=by
 cases r with
 | is c=>exact hv.trans h
 | own p=>
  obtain ⟨w0,h1,h2⟩:=h;have hb:=hb (fun _ _ _ _ e=>by cases e);refine ⟨w0,?_,?_⟩
  · rw [hl.1,hl.2];exact ⟨Nat.le_trans h1.size hz,fun b hbb hlt=>(hb b hbb (Nat.lt_of_lt_of_le hlt h1.size)).trans (h1.block b hbb hlt)⟩
  · rw [hl.1,hl.2,hv];exact h2
 | box T n=>
  obtain ⟨g,cs,h1,h2,h3,h4,h5⟩:=h;have hb:=hb (fun _ _ _ _ e=>by cases e);exact ⟨g,cs,hv.trans h1,by rw [hl.1];exact h2,by rw [hl.2];exact h3,(hb g (.inr ⟨h2,h3⟩) (Array.getElem?_eq_some_iff.1 h4).1).trans h4,h5⟩
 | same j=>exact hv.trans (h.trans (hs j rfl).symm)
 | dep js p=>
  obtain ⟨w0,h1,h2⟩:=h;have hb:=hb (fun _ _ _ _ e=>by cases e);refine ⟨w0,?_,?_⟩
  · rw [hl.1,hl.2];exact ⟨Nat.le_trans h1.size hz,fun b hbb hlt=>(hb b hbb (Nat.lt_of_lt_of_le hlt h1.size)).trans (h1.block b hbb hlt)⟩
  · rw [hl.1,hl.2,hv,vQA (hd js p rfl)];exact h2
 | put k j T n=>
  obtain ⟨g,h1,h2,h3,h4⟩:=h;obtain ⟨q1,q2,q3,q4,q5⟩:=hk k j T n rfl;exact ⟨g,q1.trans h1,by rw [q3];exact h2,by rw [q4];exact h3,by rw [q2];exact (q5 g h2 h3 (Array.getElem?_eq_some_iff.1 h4).1).trans h4⟩
end Tryst4
namespace Go.Proofs.YtcbicdencgjfiaaGreatDoor
open Go.RowKit Tryst
end Go.Proofs.YtcbicdencgjfiaaGreatDoor
namespace Tryst
def keyR (s:List UInt8 × Bool):V × (List UInt8 × Bool):=if s.2=true then (V.zero,s) else if (Jp s.1).2.2=0 then ((Jp s.1).1,(s.1.drop (Jp s.1).2.1,false)) else (V.zero,(s.1,true))
theorem keyC:Codec keyR V.lay (fun v=>v.May/\v.Fits) where
 put:=fun v hv t=>by
  unfold keyR;rw [if_neg (by simp),vJL v hv.1 hv.2 t,if_pos rfl,List.drop_left]
 got:=fun l y r e=>by
  unfold keyR at e;rw [if_neg (by simp)] at e
  split at e
  · rename_i h;simp only [Prod.mk.injEq,and_true] at e;obtain ⟨e1,e2⟩:=e;obtain ⟨h1,h2,h3,h4,h5⟩:=xQO (l:=l) (v:=(Jp l).1) (k:=(Jp l).2.1) (by rw [<- h]);rw [<- e1,<- e2,<- h5,List.take_append_drop];exact ⟨rfl,h1,h2⟩
  · cases e
 bad:=fun l=>by unfold keyR;rw [if_pos rfl]
theorem kQp (n:Int):1<=(numL n).length:=jQZ _
theorem jJL (v:V):1<=v.lay.length:=xJN v
abbrev TopT:=ByteArray × Int × List ByteArray
abbrev xQh:=ByteArray × Nat × Int
abbrev OffT:=ByteArray × Int
abbrev jJU:=Int × Nat × Int
abbrev qQp:=V × List jJU
abbrev SubT:=DP × List OffT × List qQp × Int × Int × Int × Int × Int
abbrev OutT:=Nat × ByteArray × List Nat × Int × Int
abbrev kJE:=ByteArray × ByteArray
abbrev RtT:=Int × List TopT × List xQh × List SubT × Int × List OutT × List OutT × List kJE
abbrev StrF (b:ByteArray):Prop:=b.data.toList.length < 2 ^ 64
abbrev NumF (n:Int):Prop:=fold n < 2 ^ 64
abbrev IdF (n:Nat):Prop:=n < 2 ^ 64
abbrev KeyF (v:V):Prop:=v.May/\v.Fits
abbrev qQR {α:Type} (F:α->Prop) (l:List α):Prop:=l.length < 2 ^ 64/\∀ x∈l,F x
abbrev TopF (x:TopT):Prop:=StrF x.1/\NumF x.2.1/\qQR StrF x.2.2
abbrev jYE (x:xQh):Prop:=StrF x.1/\IdF x.2.1/\NumF x.2.2
abbrev OffF (x:OffT):Prop:=StrF x.1/\NumF x.2
abbrev jYK (x:jJU):Prop:=NumF x.1/\IdF x.2.1/\NumF x.2.2
abbrev jY7 (x:qQp):Prop:=KeyF x.1/\qQR jYK x.2
abbrev SubF (x:SubT):Prop:=x.1.Fits/\qQR OffF x.2.1/\qQR jY7 x.2.2.1/\NumF x.2.2.2.1/\NumF x.2.2.2.2.1/\NumF x.2.2.2.2.2.1/\NumF x.2.2.2.2.2.2.1/\NumF x.2.2.2.2.2.2.2
abbrev OutF (x:OutT):Prop:=IdF x.1/\StrF x.2.1/\qQR IdF x.2.2.1/\NumF x.2.2.2.1/\NumF x.2.2.2.2
abbrev jYM (x:kJE):Prop:=StrF x.1/\StrF x.2
abbrev RtF (x:RtT):Prop:=NumF x.1/\qQR TopF x.2.1/\qQR jYE x.2.2.1/\qQR SubF x.2.2.2.1/\NumF x.2.2.2.2.1/\qQR OutF x.2.2.2.2.2.1/\qQR OutF x.2.2.2.2.2.2.1/\qQR jYM x.2.2.2.2.2.2.2
def topR:=seqR strR (seqR numR (Q0 strR))
def topL (x:TopT):List UInt8:=strL x.1++(numL x.2.1++Qf strL x.2.2)
theorem topC:Codec topR topL TopF:=strC.seq (numC.seq (strC.some (fun x=>Zw _)))
def kQ0:=seqR strR (seqR idR numR)
def kQ5 (x:xQh):List UInt8:=strL x.1++(pack x.2.1++numL x.2.2)
theorem lastC:Codec kQ0 kQ5 jYE:=strC.seq (idC.seq numC)
def offR:=seqR strR numR
def offL (x:OffT):List UInt8:=strL x.1++numL x.2
theorem offC:Codec offR offL OffF:=strC.seq numC
def kQE:=seqR numR (seqR idR numR)
def kQR (x:jJU):List UInt8:=numL x.1++(pack x.2.1++numL x.2.2)
theorem keptC:Codec kQE kQR jYK:=numC.seq (idC.seq numC)
theorem qYF {a b:List UInt8} (h:1<=a.length):1<=(a++b).length:=by rw [List.length_append];omega
def Z0:=seqR keyR (Q0 kQE)
def jQi (x:qQp):List UInt8:=x.1.lay++Qf kQR x.2
theorem instC:Codec Z0 jQi jY7:=keyC.seq (keptC.some (fun x=>qYF (kQp _)))
def subR:=seqR defR (seqR (Q0 offR) (seqR (Q0 Z0) (seqR numR (seqR numR (seqR numR (seqR numR numR))))))
def subL (x:SubT):List UInt8:=defL x.1++(Qf offL x.2.1++(Qf jQi x.2.2.1++(numL x.2.2.2.1++(numL x.2.2.2.2.1++(numL x.2.2.2.2.2.1++(numL x.2.2.2.2.2.2.1++numL x.2.2.2.2.2.2.2))))))
theorem subC:Codec subR subL SubF:=defC.seq ((offC.some (fun x=>qYF (Zw _))).seq ((instC.some (fun x=>qYF (jJL _))).seq (numC.seq (numC.seq (numC.seq (numC.seq numC))))))
def outR:=seqR idR (seqR strR (seqR (Q0 idR) (seqR numR numR)))
def outL (x:OutT):List UInt8:=pack x.1++(strL x.2.1++(Qf pack x.2.2.1++(numL x.2.2.2.1++numL x.2.2.2.2)))
theorem outC:Codec outR outL OutF:=idC.seq (strC.seq ((idC.some (fun x=>jQZ _)).seq (numC.seq numC)))
def kQI:=seqR strR strR
def qQy (x:kJE):List UInt8:=strL x.1++strL x.2
theorem deadC:Codec kQI qQy jYM:=strC.seq strC
def rtR:=seqR numR (seqR (Q0 topR) (seqR (Q0 kQ0) (seqR (Q0 subR) (seqR numR (seqR (Q0 outR) (seqR (Q0 outR) (Q0 kQI)))))))
def rtL (x:RtT):List UInt8:=numL x.1++(Qf topL x.2.1++(Qf kQ5 x.2.2.1++(Qf subL x.2.2.2.1++(numL x.2.2.2.2.1++(Qf outL x.2.2.2.2.2.1++(Qf outL x.2.2.2.2.2.2.1++Qf qQy x.2.2.2.2.2.2.2))))))
theorem rtC:Codec rtR rtL RtF:=numC.seq ((topC.some (fun x=>qYF (Zw _))).seq ((lastC.some (fun x=>qYF (Zw _))).seq ((subC.some (fun x=>qYF (qYF (Zw _)))).seq (numC.seq ((outC.some (fun x=>qYF (jQZ _))).seq ((outC.some (fun x=>qYF (jQZ _))).seq (deadC.some (fun x=>qYF (Zw _)))))))))
end Tryst
namespace Go.Proofs.YtcbicdencgjfiaaGreatDoor
open Go Go.RowKit Tryst
theorem lastT:SliceOf Tryz.prog 23 104 3 32:=.mk' Tryz.underlying23 (z:=.agg #[.string ⟨#[]⟩,.int .u64 0,.int .i64 0]) (by kernel_rfl) rfl (by decide) (by decide)
end Go.Proofs.YtcbicdencgjfiaaGreatDoor
namespace Tryst
open Go Go.RowKit
theorem jQC {P:Program} {w:World} {ops:Array Oper} {rest:List Oper} {o:Oper} {a:Act} {Q:Exit->Act->World->Prop} {t e:TypeId} {k bytes:Nat} (E:SliceOf P t e k bytes) (hgd:o.guard=none) (s x:Operand)
  (ho:o.op=.call { callee:=.builtin .append,args:=#[s,x],argTypes:=#[t,t] })
  (base:Nat) (v:Value) (l:List (List Value)) (n:Nat) (hln:l.length=n) (hs:a.eval s=v) (hown:ROwn e k w base v l) (r:List (List Value)) (m:Nat) (hm:r.length=m) (hr:∀ x∈r,x.length=k) (h1:∀ x∈r,∀ u∈x,u.oneCell'=true)
  (ad:Option Addr) (c:Nat) (hx:a.eval x=.slice ad m c) (hf:Row w ad k r)
  (hn:n+m<=1073741824) (hbase:base<=w.heap.size)
  (h:∀ v' w',ROwn e k w' base v' (l++r)->Below base w w'→wpList P ops Q rest (a.put o.dst v') w'):wpList P ops Q (o :: rest) a w:=by
 by_cases h0:m=0
 ·
  subst h0;have hr0:r=[]:=List.eq_nil_of_length_eq_zero hm;subst hr0;obtain ⟨i,z,hi,hz,h2,h3,h4⟩:=E.info
  have hS:Src P i.size t (.slice ad 0 c) 0 [] w:=by
   cases ad with
   | none=>exact ⟨.inl ⟨e,E.und⟩,fun w'=>by simp [Builtin.lenOf],by simp [Builtin.firstCells],by simp [Builtin.firstCells],by simp,by simp⟩
   | some A=>exact Src.ofSlice w E.und A 0 c [] (by simp) (by simp) (by simp)
  have hv:∃ a0 nn cap,v=.slice a0 nn cap/\nn<=cap:=by
   rcases hown.2 with ⟨rfl,_⟩ | ⟨g,cap,cur,rfl,_,_,hc,_⟩
   · exact ⟨none,0,0,rfl,Nat.le_refl _⟩
   · exact ⟨_,_,_,rfl,hc⟩
  obtain ⟨a0,nn,cap,rfl,hc⟩:=hv;have hrun:=run_append_nothing w t t o.type e i E.und hi a0 nn cap hc _ hS;refine wpList_plain hgd fun K' hK'=>?_
  unfold Oper.wp;simp [execOp,ho,resolve,invoke,builtin,hs,hx,hrun,Result.andThen];exact hK' _ _ (h _ _ (by rw [List.append_nil];exact hown) (.refl _ _))
 · obtain ⟨b,i,rfl,hb⟩:=hf.head (i:=0) (by omega);exact xQN E hgd s x ho base v l n hln hs hown r m hm hr h1 b i c hx hf hn hbase h
end Tryst
namespace Go.Proofs.YtcbicdencgjfiaaGreatDoor
open Go Go.RowKit Tryst
theorem vJI:SliceOf Tryz.prog 128 155 3 24:=.mk' Tryz.underlying128 (z:=.agg #[.int .i64 0,.int .u64 0,.int .i64 0]) (by kernel_rfl) rfl (by decide) (by decide)
theorem KpB.cells_len (l:List KpB):∀ x∈l.map KpB.cells,x.length=3:=by
 intro x hx;obtain ⟨t,_,rfl⟩:=List.mem_map.1 hx;rfl
theorem KpB.cells_one (l:List KpB):∀ x∈l.map KpB.cells,∀ u∈x,u.oneCell'=true:=by
 intro x hx u hu;obtain ⟨t,_,rfl⟩:=List.mem_map.1 hx;simp [KpB.cells] at hu
 rcases hu with rfl | rfl | rfl<;>rfl
end Go.Proofs.YtcbicdencgjfiaaGreatDoor
namespace Go.Proofs.YtcbicdencgjfiaaGreatDoor
open Go Go.RowKit Tryst
def outK:EK UB where
 T:=90
 k:=5
 cells:=UB.cells
 val:=UB.val
 E:=fun S w y=>LM idK S w y.ia y.ic y.ids
 len:=fun y=>rfl
 one:=fun y u hu=>by
  simp [UB.cells] at hu
  rcases hu with rfl | rfl | rfl | rfl | rfl<;>rfl
 keep:=fun h hk hz=>h.keep hk hz
theorem idT:SliceOf Tryz.prog 88 46 1 8:=.mk' Tryz.underlying88 (z:=.int .u64 0) (by kernel_rfl) rfl (by decide) (by decide)
end Go.Proofs.YtcbicdencgjfiaaGreatDoor
namespace Go.Proofs.YtcbicdencgjfiaaGreatDoor
open Go Go.RowKit Tryst
def UB.p (x:UB):OutT:=(x.id,x.sub,x.ids,x.tries,x.due)
theorem outT:SliceOf Tryz.prog 25 90 5 64:=.mk' Tryz.underlying25 (z:=.agg #[.int .u64 0,.string ⟨#[]⟩,.slice none 0 0,.int .i64 0,.int .i64 0]) (by kernel_rfl) rfl (by decide) (by decide)
end Go.Proofs.YtcbicdencgjfiaaGreatDoor
namespace Go.Proofs.YtcbicdencgjfiaaGreatDoor
open Go Go.RowKit Tryst
def jQ1:EK KpB where
 T:=155
 k:=3
 cells:=KpB.cells
 val:=KpB.val
 E:=fun _ _ _=>True
 len:=fun y=>rfl
 one:=fun y u hu=>by
  simp [KpB.cells] at hu
  rcases hu with rfl | rfl | rfl<;>rfl
 keep:=fun _ _ _=>trivial
def Kb:EK InB where
 T:=130
 k:=4
 cells:=InB.cells
 val:=InB.val
 E:=fun S w y=>LM jQ1 S w y.la y.lc y.l
 len:=fun y=>rfl
 one:=fun y u hu=>by
  simp [InB.cells] at hu
  rcases hu with rfl | rfl | rfl | rfl<;>rfl
 keep:=fun h hk hz=>h.keep hk hz
def KpB.p (x:KpB):jJU:=(x.part,x.id,x.time)
def InB.p (x:InB):qQp:=(x.key,x.l.map KpB.p)
theorem instT:SliceOf Tryz.prog 66 130 4 56:=.mk' Tryz.underlying66 (z:=.agg #[.bool false,.int .i64 0,.string ⟨#[]⟩,.slice none 0 0]) (by kernel_rfl) rfl (by decide) (by decide)
end Go.Proofs.YtcbicdencgjfiaaGreatDoor
namespace Go.Proofs.YtcbicdencgjfiaaGreatDoor
open Go Go.RowKit Tryst
theorem zYZ {l:List InB} {k:Nat} (h:k < l.length):allI (l.take (k+1))=allI (l.take k)++l[k].l:=by
 rw [List.take_succ_eq_append_getElem h];unfold allI;rw [List.flatMap_append,List.flatMap_cons,List.flatMap_nil,List.append_nil]
theorem zYU (l:List InB) (k:Nat):(allI (l.take k)).length<=(allI l).length:=by
 have h:allI l=allI (l.take k)++allI (l.drop k):=by
  unfold allI;rw [<- List.flatMap_append,List.take_append_drop]
 rw [h,List.length_append];omega
def AllIR (w:World) (l:List InB) (s i:Value) (wr:World):Prop:=∃ k:Nat,k<=l.length/\i=.int .i64 k/\Hid (ROwn 155 3 wr w.heap.size s ((allI (l.take k)).map KpB.cells))/\Hid (Below w.heap.size w wr)
theorem zYC (a:Option Addr) (c:Nat) (l:List InB) (hl:l.length<=1500000) (hn:(allI l).length<=1000000000) (w:World) (hI:Insts w a l) :
  Calls Tryz.prog 91 #[.slice a l.length c] w fun e w'=>∃ a' c',e=.returned (.slice a' (allI l).length c')/\Xg w' a' (allI l)/\Below w.heap.size w w':=by
 have HF:=Zh (fun W (hb:Below w.heap.size w W)=>hI.grow hb);clear hI;go_enter Tryz.func91,Tryz.ntmps91;go_wp2_with fail;go_loopw [3,4] (fun s i wr=>AllIR w l s i wr) (fun _ i _=>l.length - (intOf i).toNat)
 case atStart=>exact ⟨0,by omega,rfl,Zh (ROwn.nil _ _ _ _),Zh (.refl _ _)⟩
 case round=>
  obtain ⟨k,hk,rfl,HO,HW⟩:=hrel;obtain ⟨wo,rfl⟩:∃ wo,wo=wr:=⟨_,rfl⟩;have hle:=zYU l k;have HLN:Hid (((allI (l.take k)).map KpB.cells).length=(allI (l.take k)).length):=Zh (List.length_map ..)
  by_cases hlt:k < l.length
  ·
   have HI:=HF.out wo HW.out;obtain ⟨b,o,ha,hb⟩:=HI.head hlt;subst ha;obtain ⟨_,f0,f1,f2,f3⟩:=HI.at hlt;have HR:=Zh (HI.mem _ (List.getElem_mem hlt));have HT:=Zh (zYZ hlt);have hle2:=zYU l (k+1);rw [HT.out,List.length_append] at hle2;have HZ:=Zh HW.out.size;have x1:(k:Int) < l.length:=by omega
   have x2:(0:Int)<=k:=by omega
   clear HI HF;go_wp2_with (at_builtin;refine jQC vJI rfl _ _ rfl w.heap.size u3 ((allI (l.take k)).map KpB.cells) (allI (l.take k)).length HLN.out rfl HO.out (l[k].l.map KpB.cells) l[k].l.length (List.length_map ..) (KpB.cells_len _) (KpB.cells_one _) l[k].la l[k].lc rfl HR.out (by omega) HZ.out ?_;intro v' w1 ho hb1);have HO1:Hid (ROwn 155 3 w1 w.heap.size v' ((allI (l.take (k+1))).map KpB.cells)):=Zh (by rw [HT.out,List.map_append];exact ho);have HB1:=Zh (HW.out.trans hb1);clear ho hb1 HO HW;go_wp2_with fail;go_roundw
   case rel=>exact ⟨k+1,by omega,by go_num,HO1,HB1⟩
   case measure=>simp [intOf]<;>omega
  ·
   obtain rfl:k=l.length:=by omega
   rw [List.take_length] at HO HLN;obtain ⟨a4,c4,hv4,hr4,_,_⟩:=HO.out.row (KpB.cells_len _) (by decide);rw [HLN.out] at hv4;subst hv4;have HR4:=Zh hr4;clear hr4 HO;go_wp2_with fail;go_ret;exact ⟨a4,c4,rfl,HR4.out,HW.out⟩
