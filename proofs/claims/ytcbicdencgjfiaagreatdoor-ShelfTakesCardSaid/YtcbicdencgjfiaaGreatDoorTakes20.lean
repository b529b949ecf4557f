import Derived.Deep.QuietTactic
import Derived.BigQuiet
import Derived.Test.YtcbicdencgjfiaaGreatDoorEyeT
import Derived.Test.YtcbicdencgjfiaaGreatDoorLayR
import Derived.Test.YtcbicdencgjfiaaGreatDoorRLay20
import Derived.Test.YtcbicdencgjfiaaGreatDoorRMay16
import Derived.Test.YtcbicdencgjfiaaGreatDoorTakR
set_option linter.all false
set_option maxHeartbeats 8000000
set_option maxRecDepth 20000
namespace Go.Proofs.YtcbicdencgjfiaaGreatDoor
open Go.RowKit Tryst
theorem lstT0 {W0 Y w:World} {b:Nat} {o:List UInt8} (f:Value) (h:PenS W0 Y b o w) (hl:o.length<=1000) :
  Calls Tryz.prog 74 #[.pointer (some ⟨b,0,none⟩),.slice none 0 0,f] w (PenR W0 Y b (o++[0])):=by
 have H0:=Zh h;clear h;go_enter Tryz.func74,Tryz.ntmps74;go_wp2_with fail;refine (jQD 0 (by decide) H0.out (by omega)).mono ?_;rintro e w1 ⟨rfl,h1⟩;have H1:=Zh (h1.tto (l':=o++[0]) rfl);clear h1 H0;go_wp2_with fail;go_loopw [15] (fun i wr=>i=.int .i64 0/\Hid (wr=w1)) (fun _ _=>0)
 case atStart=>exact ⟨rfl,Zh rfl⟩
 case round=>
  obtain ⟨rfl,hwr⟩:=hrel;have hwr:=hwr.out;subst hwr;go_wp2_with fail;go_end0;exact ⟨rfl,H1.out⟩
theorem lstL0 {W0 Y w:World} {b:Nat} {o:List UInt8} (f:Value) (h:PenS W0 Y b o w) (hl:o.length<=1000) :
  Calls Tryz.prog 76 #[.pointer (some ⟨b,0,none⟩),.slice none 0 0,f] w (PenR W0 Y b (o++[0])):=by
 have H0:=Zh h;clear h;go_enter Tryz.func76,Tryz.ntmps76;go_wp2_with fail;refine (jQD 0 (by decide) H0.out (by omega)).mono ?_;rintro e w1 ⟨rfl,h1⟩;have H1:=Zh (h1.tto (l':=o++[0]) rfl);clear h1 H0;go_wp2_with fail;go_loopw [15] (fun i wr=>i=.int .i64 0/\Hid (wr=w1)) (fun _ _=>0)
 case atStart=>exact ⟨rfl,Zh rfl⟩
 case round=>
  obtain ⟨rfl,hwr⟩:=hrel;have hwr:=hwr.out;subst hwr;go_wp2_with fail;go_end0;exact ⟨rfl,H1.out⟩
theorem lstS0 {W0 Y w:World} {b:Nat} {o:List UInt8} (f:Value) (h:PenS W0 Y b o w) (hl:o.length<=1000) :
  Calls Tryz.prog 78 #[.pointer (some ⟨b,0,none⟩),.slice none 0 0,f] w (PenR W0 Y b (o++[0])):=by
 have H0:=Zh h;clear h;go_enter Tryz.func78,Tryz.ntmps78;go_wp2_with fail;refine (jQD 0 (by decide) H0.out (by omega)).mono ?_;rintro e w1 ⟨rfl,h1⟩;have H1:=Zh (h1.tto (l':=o++[0]) rfl);clear h1 H0;go_wp2_with fail;go_loopw [15] (fun i wr=>i=.int .i64 0/\Hid (wr=w1)) (fun _ _=>0)
 case atStart=>exact ⟨rfl,Zh rfl⟩
 case round=>
  obtain ⟨rfl,hwr⟩:=hrel;have hwr:=hwr.out;subst hwr;go_wp2_with fail;go_end0;exact ⟨rfl,H1.out⟩
theorem vYZ {W0 Y w:World} {b:Nat} {o:List UInt8} (f:Value) (h:PenS W0 Y b o w) (hl:o.length<=1000) :
  Calls Tryz.prog 80 #[.pointer (some ⟨b,0,none⟩),.slice none 0 0,f] w (PenR W0 Y b (o++[0])):=by
 have H0:=Zh h;clear h;go_enter Tryz.func80,Tryz.ntmps80;go_wp2_with fail;refine (jQD 0 (by decide) H0.out (by omega)).mono ?_;rintro e w1 ⟨rfl,h1⟩;have H1:=Zh (h1.tto (l':=o++[0]) rfl);clear h1 H0;go_wp2_with fail;go_loopw [15] (fun i wr=>i=.int .i64 0/\Hid (wr=w1)) (fun _ _=>0)
 case atStart=>exact ⟨rfl,Zh rfl⟩
 case round=>
  obtain ⟨rfl,hwr⟩:=hrel;have hwr:=hwr.out;subst hwr;go_wp2_with fail;go_end0;exact ⟨rfl,H1.out⟩
theorem lstD0 {W0 Y w:World} {b:Nat} {o:List UInt8} (f:Value) (h:PenS W0 Y b o w) (hl:o.length<=1000) :
  Calls Tryz.prog 82 #[.pointer (some ⟨b,0,none⟩),.slice none 0 0,f] w (PenR W0 Y b (o++[0])):=by
 have H0:=Zh h;clear h;go_enter Tryz.func82,Tryz.ntmps82;go_wp2_with fail;refine (jQD 0 (by decide) H0.out (by omega)).mono ?_;rintro e w1 ⟨rfl,h1⟩;have H1:=Zh (h1.tto (l':=o++[0]) rfl);clear h1 H0;go_wp2_with fail;go_loopw [15] (fun i wr=>i=.int .i64 0/\Hid (wr=w1)) (fun _ _=>0)
 case atStart=>exact ⟨rfl,Zh rfl⟩
 case round=>
  obtain ⟨rfl,hwr⟩:=hrel;have hwr:=hwr.out;subst hwr;go_wp2_with fail;go_end0;exact ⟨rfl,H1.out⟩
theorem vY6 {W0 Y w:World} {b:Nat} (h:PenS W0 Y b [] w) :
  Calls Tryz.prog 32 #[.pointer (some ⟨b,0,none⟩),.agg #[.int .i64 0,.slice none 0 0,.slice none 0 0,.slice none 0 0,.int .i64 0,.slice none 0 0,.slice none 0 0,.slice none 0 0]] w (PenR W0 Y b [0,0,0,0,0,0,0,0]):=by
 have H0:=Zh h;have hbw:=h.lt;clear h;have HX:=Zh (Var.new w 28 [.int .i64 0,.slice none 0 0,.slice none 0 0,.slice none 0 0,.int .i64 0,.slice none 0 0,.slice none 0 0,.slice none 0 0]);have B0:=Zh (Qj (.cells #[.int .i64 0,.slice none 0 0,.slice none 0 0,.slice none 0 0,.int .i64 0,.slice none 0 0,.slice none 0 0,.slice none 0 0] 28) (.refl w.heap.size w));have H1:=Zh (H0.out.enter B0.out);go_enter Tryz.func32,Tryz.ntmps32;go_upto_region 1 with fail
 have HV:=HX;clear HX;revert B0 H1 HV;rw [show (w.alloc (.cells [.int .i64 0,.slice none 0 0,.slice none 0 0,.slice none 0 0,.int .i64 0,.slice none 0 0,.slice none 0 0,.slice none 0 0].toArray 28))=w.alloc (.cells #[.int .i64 0,.slice none 0 0,.slice none 0 0,.slice none 0 0,.int .i64 0,.slice none 0 0,.slice none 0 0,.slice none 0 0] 28) from rfl];generalize w.alloc (.cells #[.int .i64 0,.slice none 0 0,.slice none 0 0,.slice none 0 0,.int .i64 0,.slice none 0 0,.slice none 0 0,.slice none 0 0] 28)=Z;intro B0 H1 HX;have hgb:w.heap.size≠b:=by omega
 generalize w.heap.size=g at HX hgb ⊢;obtain ⟨x0,x1,x2,x3,x4,x5,x6,x7⟩:=v8 (HX.out);go_wp2_with fail;refine (Jk 0 (by decide) (by decide) H1.out (by decide)).mono ?_;rintro e w2 ⟨rfl,h2⟩;have H2:=Zh h2;clear h2 H1 x0 x1 x2 x3 x4 x5 x6 x7;obtain ⟨x0,x1,x2,x3,x4,x5,x6,x7⟩:=v8 ((Var.kept H2.out HX.out hgb (by decide)));go_wp2_with fail;refine (lstT0 _ (H2.out.tto (l':=[0]) rfl) (by decide)).mono ?_;rintro e w3 ⟨rfl,h3⟩;have H3:=Zh h3;clear h3 H2 x0 x1 x2 x3 x4 x5 x6 x7;obtain ⟨x0,x1,x2,x3,x4,x5,x6,x7⟩:=v8 ((Var.kept H3.out HX.out hgb (by decide)));go_wp2_with fail;refine (lstL0 _ H3.out (by decide)).mono ?_;rintro e w4 ⟨rfl,h4⟩;have H4:=Zh h4;clear h4 H3 x0 x1 x2 x3 x4 x5 x6 x7;obtain ⟨x0,x1,x2,x3,x4,x5,x6,x7⟩:=v8 ((Var.kept H4.out HX.out hgb (by decide)));go_wp2_with fail;refine (lstS0 _ H4.out (by decide)).mono ?_;rintro e w5 ⟨rfl,h5⟩;have H5:=Zh h5;clear h5 H4 x0 x1 x2 x3 x4 x5 x6 x7;obtain ⟨x0,x1,x2,x3,x4,x5,x6,x7⟩:=v8 ((Var.kept H5.out HX.out hgb (by decide)));go_wp2_with fail;refine (Jk 0 (by decide) (by decide) H5.out (by decide)).mono ?_;rintro e w6 ⟨rfl,h6⟩;have H6:=Zh h6;clear h6 H5 x0 x1 x2 x3 x4 x5 x6 x7;obtain ⟨x0,x1,x2,x3,x4,x5,x6,x7⟩:=v8 ((Var.kept H6.out HX.out hgb (by decide)));go_wp2_with fail;refine (vYZ _ (H6.out.tto (l':=[0,0,0,0,0]) rfl) (by decide)).mono ?_;rintro e w7 ⟨rfl,h7⟩;have H7:=Zh h7;clear h7 H6 x0 x1 x2 x3 x4 x5 x6 x7;obtain ⟨x0,x1,x2,x3,x4,x5,x6,x7⟩:=v8 ((Var.kept H7.out HX.out hgb (by decide)));go_wp2_with fail;refine (vYZ _ H7.out (by decide)).mono ?_;rintro e w8 ⟨rfl,h8⟩;have H8:=Zh h8;clear h8 H7 x0 x1 x2 x3 x4 x5 x6 x7;obtain ⟨x0,x1,x2,x3,x4,x5,x6,x7⟩:=v8 ((Var.kept H8.out HX.out hgb (by decide)));go_wp2_with fail;refine (lstD0 _ H8.out (by decide)).mono ?_;rintro e w9 ⟨rfl,h9⟩;have H9:=Zh h9;clear h9 H8 x0 x1 x2 x3 x4 x5 x6 x7;obtain ⟨x0,x1,x2,x3,x4,x5,x6,x7⟩:=v8 ((Var.kept H9.out HX.out hgb (by decide)));go_wp2_with fail;go_end0;exact ⟨rfl,(H0.out.leave B0.out H9.out)⟩
end Go.Proofs.YtcbicdencgjfiaaGreatDoor
namespace Go.Proofs.YtcbicdencgjfiaaGreatDoor
open Go Go.RowKit Tryst
theorem RtW.zeroY (w:World):RtW w RtB.zero:=⟨Row.nil _ _ _,fun t ht=>(by cases ht),Row.nil _ _ _,Row.nil _ _ _,fun t ht=>(by cases ht),Row.nil _ _ _,fun t ht=>(by cases ht),Row.nil _ _ _,fun t ht=>(by cases ht),Row.nil _ _ _⟩
theorem RtX.zeroY:RtX RtB.zero:=⟨by decide,by decide,by decide,fun t ht=>(by cases ht),by decide,fun t ht=>(by cases ht),by decide,fun t ht=>(by cases ht),by decide,fun t ht=>(by cases ht),by decide,fun t ht=>(by cases ht),by decide,fun t ht=>(by cases ht)⟩
theorem chk0 (w:World) (hM:MaxW w):Calls Tryz.prog 31 #[.agg #[.int .i64 0,.slice none 0 0,.slice none 0 0,.slice none 0 0,.int .i64 0,.slice none 0 0,.slice none 0 0,.slice none 0 0]] w fun e w'=>e=.returned (.int .i64 0)/\Below w.heap.size w w':=by
 have h:=vQJ RtB.zero w hM ((RtW.zeroY w).o RtX.zeroY);rw [show Xx RtB.zero=true by kernel_rfl] at h;exact h
theorem layE1 (w:World) (hM:MaxW w):Calls Tryz.prog 10 #[.agg #[.int .i64 0,.slice none 0 0,.slice none 0 0,.slice none 0 0,.int .i64 0,.slice none 0 0,.slice none 0 0,.slice none 0 0]] w fun e w'=>e=.returned (.tuple #[.string ⟨#[0,0,0,0,0,0,0,0]⟩,.int .i64 0])/\Below w.heap.size w w':=by
 have CK:=Zh (fun W (hb:Below w.heap.size w W)=>chk0 W (hM.grow hb));have HX:=Zh (Var.new w 28 [.int .i64 0,.slice none 0 0,.slice none 0 0,.slice none 0 0,.int .i64 0,.slice none 0 0,.slice none 0 0,.slice none 0 0]);have HB:=Zh (Qj (.cells #[.int .i64 0,.slice none 0 0,.slice none 0 0,.slice none 0 0,.int .i64 0,.slice none 0 0,.slice none 0 0,.slice none 0 0] 28) (.refl w.heap.size w));obtain ⟨x0,x1,x2,x3,x4,x5,x6,x7⟩:=v8 (HX.out);go_enter Tryz.func10,Tryz.ntmps10;go_upto_region 1 with fail
 have HV:=HX;clear HX;revert HB x0 x1 x2 x3 x4 x5 x6 x7 HV;rw [show (w.alloc (.cells [.int .i64 0,.slice none 0 0,.slice none 0 0,.slice none 0 0,.int .i64 0,.slice none 0 0,.slice none 0 0,.slice none 0 0].toArray 28))=w.alloc (.cells #[.int .i64 0,.slice none 0 0,.slice none 0 0,.slice none 0 0,.int .i64 0,.slice none 0 0,.slice none 0 0,.slice none 0 0] 28) from rfl];generalize w.alloc (.cells #[.int .i64 0,.slice none 0 0,.slice none 0 0,.slice none 0 0,.int .i64 0,.slice none 0 0,.slice none 0 0,.slice none 0 0] 28)=Z;intro HB x0 x1 x2 x3 x4 x5 x6 x7 HV;go_wp2_with fail;refine (CK.out _ HB.out).mono ?_;rintro e w2 ⟨rfl,b2⟩;have HP:=Zh (show PenS w2 (w2.alloc (.cells #[.pointer none,.slice none 0 0] 81)) w2.heap.size [] (w2.alloc (.cells #[.pointer none,.slice none 0 0] 81)) from ⟨Lib.fresh_isBuilder 81 5 w2,Qj _ (.refl _ _),Kept.refl _ _⟩);have V2:=Zh (HV.out.grow (Qj (.cells #[.pointer none,.slice none 0 0] 81) b2));have B2:=Zh (Qk b2 HB.out);clear b2 x0 x1 x2 x3 x4 x5 x6 x7;go_upto_region 4 with fail
 revert HP V2;generalize w2.alloc (.cells #[.pointer none,.slice none 0 0] 81)=Y;intro HP V2;obtain ⟨x0,x1,x2,x3,x4,x5,x6,x7⟩:=v8 (V2.out);go_wp2_with fail;refine (vY6 HP.out).mono ?_;rintro e w3 ⟨rfl,h3⟩;have H3:=Zh h3;clear h3 HP V2 x0 x1 x2 x3 x4 x5 x6 x7;go_wp2_with fail;refine (vQl w2.heap.size _ _ _ H3.out.bld (by simp)).mono ?_;rintro e w4 ⟨rfl,b4⟩;have B4:=Zh (Qk (H3.out.low.trans b4) B2.out);clear b4 H3;go_wp2_with fail;go_ret2;exact ⟨rfl,B4.out⟩
theorem vYe (w:World) (hM:MaxW w):Calls Tryz.prog 13 #[.string ⟨#[]⟩] w fun e w'=>e=.returned (.tuple #[.agg #[.int .i64 0,.slice none 0 0,.slice none 0 0,.slice none 0 0,.int .i64 0,.slice none 0 0,.slice none 0 0,.slice none 0 0],.int .i64 2])/\Below w.heap.size w w':=
 (xQF ⟨#[]⟩ (by decide) w hM).mono fun e w' h=>TrR.err h (by decide)
theorem layRY (w:World) (hM:MaxW w) (hT:Tab w):Calls Tryz.prog 17 #[.agg #[.int .i64 10,.string ⟨#[]⟩,.string ⟨#[]⟩,.slice none 0 0,.slice none 0 0,.string ⟨#[]⟩,.string ⟨#[]⟩,.int .i64 0,.int .i64 0,.int .i64 0,.bool false,.int .u64 0,.int .i64 0]] w fun e w'=>e=.returned (.tuple #[.string ⟨#[20,0,0,0,0]⟩,.int .i64 0])/\Below w.heap.size w w':=by
 have h:=qJw ⟨10,⟨#[]⟩,.zero,false,0,0⟩ w hM hT (DO.zero w) ⟨by decide,by decide,by decide,by decide,by decide,by decide,by decide⟩ ⟨by decide,by decide,by decide,by decide,by decide⟩ (by decide);have e1:mayO ⟨10,⟨#[]⟩,.zero,false,0,0⟩=true:=by decide
 have e2:opL (OPB.p ⟨10,⟨#[]⟩,.zero,false,0,0⟩)=[20,0,0,0,0]:=by decide
 rw [e1,e2] at h;exact h
theorem zYh (w:World) (hM:MaxW w) (hT:Tab w):Calls Tryz.prog 12 #[] w fun e w'=>e=.returned (.bool true)/\Below w.heap.size w w':=by
 have HM:=Zh hM;have HT:=Zh hT;clear hM hT;go_enter Tryz.func12,Tryz.ntmps12;go_wp2_with fail;refine (layE1 _ HM.out).mono ?_;rintro e w1 ⟨rfl,b1⟩;have B1:=Zh b1;clear b1;go_wp2_with fail;refine (layRY _ (HM.out.grow B1.out) (HT.out.grow B1.out)).mono ?_;rintro e w2 ⟨rfl,b2⟩;have B2:=Zh (Qk b2 B1.out);clear b2 B1;go_wp2_with fail;refine (vYe _ (HM.out.grow B2.out)).mono ?_;rintro e w3 ⟨rfl,b3⟩;have B3:=Zh (Qj (.cells #[.int .i64 0,.slice none 0 0,.slice none 0 0,.slice none 0 0,.int .i64 0,.slice none 0 0,.slice none 0 0,.slice none 0 0] 28) (Qk b3 B2.out));clear b3 B2;go_wp2_with fail;go_ret;exact ⟨rfl,B3.out⟩
end Go.Proofs.YtcbicdencgjfiaaGreatDoor
namespace Go.Proofs.YtcbicdencgjfiaaGreatDoor
open Go Go.RowKit Tryst
theorem smT (w:World):Calls Tryz.prog 50 #[.slice none 0 0,.slice none 0 0] w fun e w'=>e=.returned (.bool true)/\w=w':=by
 go_enter Tryz.func50,Tryz.ntmps50;go_wp2_with fail;go_loopw [5] (fun i wr=>i=.int .i64 0/\Hid (wr=w)) (fun _ _=>0)
 case atStart=>exact ⟨rfl,Zh rfl⟩
 case round=>
  obtain ⟨rfl,hwr⟩:=hrel;have hwr:=hwr.out;subst hwr;go_wp2_with fail;go_ret;exact ⟨rfl,rfl⟩
theorem smL (w:World):Calls Tryz.prog 51 #[.slice none 0 0,.slice none 0 0] w fun e w'=>e=.returned (.bool true)/\w=w':=by
 go_enter Tryz.func51,Tryz.ntmps51;go_wp2_with fail;go_loopw [5] (fun i wr=>i=.int .i64 0/\Hid (wr=w)) (fun _ _=>0)
 case atStart=>exact ⟨rfl,Zh rfl⟩
 case round=>
  obtain ⟨rfl,hwr⟩:=hrel;have hwr:=hwr.out;subst hwr;go_wp2_with fail;go_ret;exact ⟨rfl,rfl⟩
theorem smO (w:World):Calls Tryz.prog 52 #[.slice none 0 0,.slice none 0 0] w fun e w'=>e=.returned (.bool true)/\w=w':=by
 go_enter Tryz.func52,Tryz.ntmps52;go_wp2_with fail;go_loopw [5] (fun i wr=>i=.int .i64 0/\Hid (wr=w)) (fun _ _=>0)
 case atStart=>exact ⟨rfl,Zh rfl⟩
 case round=>
  obtain ⟨rfl,hwr⟩:=hrel;have hwr:=hwr.out;subst hwr;go_wp2_with fail;go_ret;exact ⟨rfl,rfl⟩
theorem zYp (w:World):Calls Tryz.prog 15 #[.agg #[.int .i64 0,.slice none 0 0,.slice none 0 0,.slice none 0 0,.int .i64 0,.slice none 0 0,.slice none 0 0,.slice none 0 0],.agg #[.int .i64 0,.slice none 0 0,.slice none 0 0,.slice none 0 0,.int .i64 0,.slice none 0 0,.slice none 0 0,.slice none 0 0]] w fun e w'=>e=.returned (.bool true)/\Below w.heap.size w w':=by
 have HX:=Zh (Var.new w 28 [.int .i64 0,.slice none 0 0,.slice none 0 0,.slice none 0 0,.int .i64 0,.slice none 0 0,.slice none 0 0,.slice none 0 0]);have HY:=Zh (Var.new (w.alloc (.cells [.int .i64 0,.slice none 0 0,.slice none 0 0,.slice none 0 0,.int .i64 0,.slice none 0 0,.slice none 0 0,.slice none 0 0].toArray 28)) 28 [.int .i64 0,.slice none 0 0,.slice none 0 0,.slice none 0 0,.int .i64 0,.slice none 0 0,.slice none 0 0,.slice none 0 0]);have HX1:=Zh (HX.out.grow (Qj (.cells [.int .i64 0,.slice none 0 0,.slice none 0 0,.slice none 0 0,.int .i64 0,.slice none 0 0,.slice none 0 0,.slice none 0 0].toArray 28) (.refl _ _)));have HB:=Zh (Qj (.cells [.int .i64 0,.slice none 0 0,.slice none 0 0,.slice none 0 0,.int .i64 0,.slice none 0 0,.slice none 0 0,.slice none 0 0].toArray 28) (Qj (.cells [.int .i64 0,.slice none 0 0,.slice none 0 0,.slice none 0 0,.int .i64 0,.slice none 0 0,.slice none 0 0,.slice none 0 0].toArray 28) (.refl w.heap.size w)));have hz0:(w.alloc (.cells [.int .i64 0,.slice none 0 0,.slice none 0 0,.slice none 0 0,.int .i64 0,.slice none 0 0,.slice none 0 0,.slice none 0 0].toArray 28)).heap.size=w.heap.size+1:=by simp
 rw [hz0] at HY;clear HX hz0;go_enter Tryz.func15,Tryz.ntmps15;go_upto_region 1 with fail
 revert HY HX1 HB;simp only [List.toArray];generalize World.alloc _ (.cells _ 28)=Z;intro HY HX1 HB;obtain ⟨x0,x1,x2,x3,x4,x5,x6,x7⟩:=v8 (HX1.out);obtain ⟨y0,y1,y2,y3,y4,y5,y6,y7⟩:=v8 (HY.out);have hz:=HY.out.lt;go_wp2_with fail;refine (smT _).mono ?_;rintro e w1 ⟨rfl,rfl⟩;go_wp2_with fail;refine (smL _).mono ?_;rintro e w1 ⟨rfl,rfl⟩;go_wp2_with fail;refine (smO _).mono ?_;rintro e w1 ⟨rfl,rfl⟩;go_wp2_with fail;refine (smO _).mono ?_;rintro e w1 ⟨rfl,rfl⟩;go_wp2_with fail;go_loopw [5] (fun i wr=>i=.int .i64 0/\Hid (wr=Z)) (fun _ _=>0)
 case atStart=>exact ⟨rfl,Zh rfl⟩
 case round=>
  obtain ⟨rfl,hwr⟩:=hrel;have hwr:=hwr.out;subst hwr;obtain ⟨Z2,rfl⟩:∃ Z2,Z2=wr:=⟨_,rfl⟩;go_wp2_with fail;go_loopw [6] (fun i wr=>i=.int .i64 0/\Hid (wr=Z2)) (fun _ _=>0)
  case atStart=>exact ⟨rfl,Zh rfl⟩
  case round=>
   obtain ⟨rfl,hwr⟩:=hrel;have hwr:=hwr.out;subst hwr;go_wp2_with fail;go_ret;exact ⟨rfl,HB.out⟩
theorem kYd (t:ByteArray) (hs:t.size<=9223372036854775807) (w:World) (hM0:MaxW w) (hT:Tab w):Calls Tryz.prog 4 #[.string t] w fun e w'=>e=.returned (.bool true)/\Below w.heap.size w w':=by
 have HAW:=Zh (fun W (hb:Below w.heap.size w W)=>zYh W (hM0.grow hb) (hT.grow hb))
 by_cases hlt:8000 < t.size
 ·
  have hle:8000<=t.size:=by omega
  have hsz:(t.extract 0 8000).size<=8000:=by rw [ByteArray.size_extract];omega
  have HTO:=Zh (xQF (t.extract 0 8000) (by omega) w hM0);clear hM0 hT;go_enter Tryz.func4,Tryz.ntmps4;go_wp2_with fail;refine HTO.out.mono ?_;rintro e w1 ⟨y,hE,hb,hcase⟩;have HB1:=Zh hb;clear hb HTO
  rcases hcase with ⟨rfl,h1,h2,h3⟩ | ⟨rfl,rfl,_⟩
  ·
   obtain ⟨hl,hf⟩:=rtC.got _ (RtB.p y) [] (Prod.ext h2.symm h1);rw [List.append_nil] at hl;have hn:(rtL (RtB.p y)).length<=8000:=by rw [<- hl,Qx];exact hsz
   obtain ⟨hW,hX⟩:=hE.parts hf (by omega);have CM:=Zh (fun W (hb:Below w1.heap.size w1 W)=>kYn y W (hW.grow hb) hX);have CL:=Zh (fun W (hb:Below w1.heap.size w1 W)=>kYm y hX (fun z hz=>⟨qJU (jQR h3 z hz).1,Nat.le_trans (xQE (fun p hp=>qQd p ((hW.sm z hz).d.wR.po p hp).1) (jQR h3 z hz).1) (by decide)⟩) (by omega) W (hW.grow hb));rw [h3] at CM;have HL:Hid ((⟨(rtL (RtB.p y)).toArray⟩:ByteArray)=(t.extract 0 8000)):=Zh (by rw [<- hl]);rw [HL.out] at CL;have VY:=Zh (Var.new w1 28 y.cells);have BY:=Zh (Qj (.cells y.cells.toArray 28) (.refl w1.heap.size w1));have B1:=Zh (Qj (.cells y.cells.toArray 28) HB1.out);clear hl hf hn hE h1 h2 h3 hW hX HB1;unfold RtB.cells at VY BY B1;unfold RtB.agg at CM CL ⊢;go_upto_region 4 with fail
   revert B1 VY BY;generalize w1.alloc (.cells _ 28)=w2;intro VY BY B1;obtain ⟨x0,x1,x2,x3,x4,x5,x6,x7⟩:=v8 (VY.out);have hz:=VY.out.lt;go_wp2_with fail;refine (CM.out _ BY.out).mono ?_;rintro e w3 ⟨rfl,b3⟩;have V3:=Zh (VY.out.grow b3);have B3:=Zh (Qk b3 B1.out);have BY3:=Zh (Qk b3 BY.out);clear b3 x0 x1 x2 x3 x4 x5 x6 x7 hz;obtain ⟨x0,x1,x2,x3,x4,x5,x6,x7⟩:=v8 (V3.out);have hz:=V3.out.lt;go_wp2_with fail;refine (CL.out _ BY3.out).mono ?_;rintro e w4 ⟨rfl,b4⟩;have B4:=Zh (Qk b4 B3.out);clear b4 x0 x1 x2 x3 x4 x5 x6 x7 hz;go_wp2_with fail;refine (HAW.out _ B4.out).mono ?_;rintro e w5 ⟨rfl,b5⟩;have B5:=Zh (Qk b5 B4.out);clear b5;go_wp2_with fail;go_ret;exact ⟨rfl,B5.out⟩
  ·
   have VY:=Zh (Var.new w1 28 RtB.zero.cells);have B1:=Zh (Qj (.cells RtB.zero.cells.toArray 28) HB1.out);clear hE HB1;unfold RtB.cells RtB.zero at VY B1;rw [show RtB.zero.agg=.agg #[.int .i64 0,.slice none 0 0,.slice none 0 0,.slice none 0 0,.int .i64 0,.slice none 0 0,.slice none 0 0,.slice none 0 0] from rfl];go_upto_region 4 with fail
   revert B1 VY;simp only [List.length_nil];generalize w1.alloc (.cells _ 28)=w2;intro VY B1;obtain ⟨x0,x1,x2,x3,x4,x5,x6,x7⟩:=v8 (VY.out);have hz:=VY.out.lt;go_wp2_with fail;refine (zYp w2).mono ?_;rintro e w3 ⟨rfl,b3⟩;have B3:=Zh (Qk b3 B1.out);clear b3 x0 x1 x2 x3 x4 x5 x6 x7 hz;go_wp2_with fail;refine (HAW.out _ B3.out).mono ?_;rintro e w4 ⟨rfl,b4⟩;have B4:=Zh (Qk b4 B3.out);clear b4;go_wp2_with fail;go_ret;exact ⟨rfl,B4.out⟩
 ·
  have hsz:t.size<=8000:=by omega
  have HTO:=Zh (xQF t (by omega) w hM0);clear hM0 hT;go_enter Tryz.func4,Tryz.ntmps4;go_wp2_with fail;refine HTO.out.mono ?_;rintro e w1 ⟨y,hE,hb,hcase⟩;have HB1:=Zh hb;clear hb HTO
  rcases hcase with ⟨rfl,h1,h2,h3⟩ | ⟨rfl,rfl,_⟩
  ·
   obtain ⟨hl,hf⟩:=rtC.got _ (RtB.p y) [] (Prod.ext h2.symm h1);rw [List.append_nil] at hl;have hn:(rtL (RtB.p y)).length<=8000:=by rw [<- hl,Qx];exact hsz
   obtain ⟨hW,hX⟩:=hE.parts hf (by omega);have CM:=Zh (fun W (hb:Below w1.heap.size w1 W)=>kYn y W (hW.grow hb) hX);have CL:=Zh (fun W (hb:Below w1.heap.size w1 W)=>kYm y hX (fun z hz=>⟨qJU (jQR h3 z hz).1,Nat.le_trans (xQE (fun p hp=>qQd p ((hW.sm z hz).d.wR.po p hp).1) (jQR h3 z hz).1) (by decide)⟩) (by omega) W (hW.grow hb));rw [h3] at CM;have HL:Hid ((⟨(rtL (RtB.p y)).toArray⟩:ByteArray)=t):=Zh (by rw [<- hl]);rw [HL.out] at CL;have VY:=Zh (Var.new w1 28 y.cells);have BY:=Zh (Qj (.cells y.cells.toArray 28) (.refl w1.heap.size w1));have B1:=Zh (Qj (.cells y.cells.toArray 28) HB1.out);clear hl hf hn hE h1 h2 h3 hW hX HB1;unfold RtB.cells at VY BY B1;unfold RtB.agg at CM CL ⊢;go_upto_region 4 with fail
   revert B1 VY BY;generalize w1.alloc (.cells _ 28)=w2;intro VY BY B1;obtain ⟨x0,x1,x2,x3,x4,x5,x6,x7⟩:=v8 (VY.out);have hz:=VY.out.lt;go_wp2_with fail;refine (CM.out _ BY.out).mono ?_;rintro e w3 ⟨rfl,b3⟩;have V3:=Zh (VY.out.grow b3);have B3:=Zh (Qk b3 B1.out);have BY3:=Zh (Qk b3 BY.out);clear b3 x0 x1 x2 x3 x4 x5 x6 x7 hz;obtain ⟨x0,x1,x2,x3,x4,x5,x6,x7⟩:=v8 (V3.out);have hz:=V3.out.lt;go_wp2_with fail;refine (CL.out _ BY3.out).mono ?_;rintro e w4 ⟨rfl,b4⟩;have B4:=Zh (Qk b4 B3.out);clear b4 x0 x1 x2 x3 x4 x5 x6 x7 hz;go_wp2_with fail;refine (HAW.out _ B4.out).mono ?_;rintro e w5 ⟨rfl,b5⟩;have B5:=Zh (Qk b5 B4.out);clear b5;go_wp2_with fail;go_ret;exact ⟨rfl,B5.out⟩
  ·
   have VY:=Zh (Var.new w1 28 RtB.zero.cells);have B1:=Zh (Qj (.cells RtB.zero.cells.toArray 28) HB1.out);clear hE HB1;unfold RtB.cells RtB.zero at VY B1;rw [show RtB.zero.agg=.agg #[.int .i64 0,.slice none 0 0,.slice none 0 0,.slice none 0 0,.int .i64 0,.slice none 0 0,.slice none 0 0,.slice none 0 0] from rfl];go_upto_region 4 with fail
   revert B1 VY;simp only [List.length_nil];generalize w1.alloc (.cells _ 28)=w2;intro VY B1;obtain ⟨x0,x1,x2,x3,x4,x5,x6,x7⟩:=v8 (VY.out);have hz:=VY.out.lt;go_wp2_with fail;refine (zYp w2).mono ?_;rintro e w3 ⟨rfl,b3⟩;have B3:=Zh (Qk b3 B1.out);clear b3 x0 x1 x2 x3 x4 x5 x6 x7 hz;go_wp2_with fail;refine (HAW.out _ B3.out).mono ?_;rintro e w4 ⟨rfl,b4⟩;have B4:=Zh (Qk b4 B3.out);clear b4;go_wp2_with fail;go_ret;exact ⟨rfl,B4.out⟩
