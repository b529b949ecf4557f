/- shelf.Lay of the empty router; lists without elements -/
import Derived.Deep.QuietTactic
import Derived.BigQuiet
import Derived.Test.YtcbicdencgjfiaaGreatDoorEyeT
import Derived.Test.YtcbicdencgjfiaaGreatDoorPenF
set_option linter.unusedVariables false
set_option linter.unusedSimpArgs false
namespace Go.Proofs.YtcbicdencgjfiaaGreatDoor
open Go.RowKit Tryst
set_option maxHeartbeats 4000000
set_option maxRecDepth 20000
theorem tchk0 (w:World):Calls Tryz.prog 68 #[.slice none 0 0] w fun e w'=>e=.returned (.int .i64 0)∧w=w':=by
 go_enter Tryz.func68,Tryz.ntmps68
 go_wp2_with fail
 go_loopw [10] (fun i wr=>i=.int .i64 0∧Hid (wr=w)) (fun _ _=>0)
 case atStart=>exact ⟨rfl,Lib.hid rfl⟩
 case round=>
  obtain ⟨rfl,hwr⟩:=hrel
  have hwr:=hwr.out
  subst hwr
  go_wp2_with fail
  go_ret
  exact ⟨rfl,rfl⟩
theorem dchk0 (w:World):Calls Tryz.prog 69 #[.slice none 0 0] w fun e w'=>e=.returned (.int .i64 0)∧w=w':=by
 go_enter Tryz.func69,Tryz.ntmps69
 go_wp2_with fail
 go_loopw [10] (fun i wr=>i=.int .i64 0∧Hid (wr=w)) (fun _ _=>0)
 case atStart=>exact ⟨rfl,Lib.hid rfl⟩
 case round=>
  obtain ⟨rfl,hwr⟩:=hrel
  have hwr:=hwr.out
  subst hwr
  go_wp2_with fail
  go_ret
  exact ⟨rfl,rfl⟩
theorem ochk0 (w:World):Calls Tryz.prog 135 #[.slice none 0 0] w fun e w'=>e=.returned (.int .i64 0)∧w=w':=by
 go_enter Tryz.func135,Tryz.ntmps135
 go_wp2_with fail
 go_loopw [10] (fun i wr=>i=.int .i64 0∧Hid (wr=w)) (fun _ _=>0)
 case atStart=>exact ⟨rfl,Lib.hid rfl⟩
 case round=>
  obtain ⟨rfl,hwr⟩:=hrel
  have hwr:=hwr.out
  subst hwr
  go_wp2_with fail
  go_ret
  exact ⟨rfl,rfl⟩
theorem lstT0 {W0 Y w:World} {b:Nat} {o:List UInt8} (f:Value) (h:PenS W0 Y b o w) (hl:o.length≤1000) :
  Calls Tryz.prog 74 #[.pointer (some ⟨b,0,none⟩),.slice none 0 0,f] w (PenR W0 Y b (o++[0])):=by
 have H0:=Lib.hid h
 clear h
 go_enter Tryz.func74,Tryz.ntmps74
 go_wp2_with fail
 refine (pid_c 0 (by decide) H0.out (by omega)).mono ?_
 rintro e w1 ⟨rfl,h1⟩
 have H1:=Lib.hid (h1.to (l':=o++[0]) rfl)
 clear h1 H0
 go_wp2_with fail
 go_loopw [15] (fun i wr=>i=.int .i64 0∧Hid (wr=w1)) (fun _ _=>0)
 case atStart=>exact ⟨rfl,Lib.hid rfl⟩
 case round=>
  obtain ⟨rfl,hwr⟩:=hrel
  have hwr:=hwr.out
  subst hwr
  go_wp2_with fail
  go_end0
  exact ⟨rfl,H1.out⟩
theorem lstL0 {W0 Y w:World} {b:Nat} {o:List UInt8} (f:Value) (h:PenS W0 Y b o w) (hl:o.length≤1000) :
  Calls Tryz.prog 76 #[.pointer (some ⟨b,0,none⟩),.slice none 0 0,f] w (PenR W0 Y b (o++[0])):=by
 have H0:=Lib.hid h
 clear h
 go_enter Tryz.func76,Tryz.ntmps76
 go_wp2_with fail
 refine (pid_c 0 (by decide) H0.out (by omega)).mono ?_
 rintro e w1 ⟨rfl,h1⟩
 have H1:=Lib.hid (h1.to (l':=o++[0]) rfl)
 clear h1 H0
 go_wp2_with fail
 go_loopw [15] (fun i wr=>i=.int .i64 0∧Hid (wr=w1)) (fun _ _=>0)
 case atStart=>exact ⟨rfl,Lib.hid rfl⟩
 case round=>
  obtain ⟨rfl,hwr⟩:=hrel
  have hwr:=hwr.out
  subst hwr
  go_wp2_with fail
  go_end0
  exact ⟨rfl,H1.out⟩
theorem lstS0 {W0 Y w:World} {b:Nat} {o:List UInt8} (f:Value) (h:PenS W0 Y b o w) (hl:o.length≤1000) :
  Calls Tryz.prog 78 #[.pointer (some ⟨b,0,none⟩),.slice none 0 0,f] w (PenR W0 Y b (o++[0])):=by
 have H0:=Lib.hid h
 clear h
 go_enter Tryz.func78,Tryz.ntmps78
 go_wp2_with fail
 refine (pid_c 0 (by decide) H0.out (by omega)).mono ?_
 rintro e w1 ⟨rfl,h1⟩
 have H1:=Lib.hid (h1.to (l':=o++[0]) rfl)
 clear h1 H0
 go_wp2_with fail
 go_loopw [15] (fun i wr=>i=.int .i64 0∧Hid (wr=w1)) (fun _ _=>0)
 case atStart=>exact ⟨rfl,Lib.hid rfl⟩
 case round=>
  obtain ⟨rfl,hwr⟩:=hrel
  have hwr:=hwr.out
  subst hwr
  go_wp2_with fail
  go_end0
  exact ⟨rfl,H1.out⟩
theorem lstO0 {W0 Y w:World} {b:Nat} {o:List UInt8} (f:Value) (h:PenS W0 Y b o w) (hl:o.length≤1000) :
  Calls Tryz.prog 80 #[.pointer (some ⟨b,0,none⟩),.slice none 0 0,f] w (PenR W0 Y b (o++[0])):=by
 have H0:=Lib.hid h
 clear h
 go_enter Tryz.func80,Tryz.ntmps80
 go_wp2_with fail
 refine (pid_c 0 (by decide) H0.out (by omega)).mono ?_
 rintro e w1 ⟨rfl,h1⟩
 have H1:=Lib.hid (h1.to (l':=o++[0]) rfl)
 clear h1 H0
 go_wp2_with fail
 go_loopw [15] (fun i wr=>i=.int .i64 0∧Hid (wr=w1)) (fun _ _=>0)
 case atStart=>exact ⟨rfl,Lib.hid rfl⟩
 case round=>
  obtain ⟨rfl,hwr⟩:=hrel
  have hwr:=hwr.out
  subst hwr
  go_wp2_with fail
  go_end0
  exact ⟨rfl,H1.out⟩
theorem lstD0 {W0 Y w:World} {b:Nat} {o:List UInt8} (f:Value) (h:PenS W0 Y b o w) (hl:o.length≤1000) :
  Calls Tryz.prog 82 #[.pointer (some ⟨b,0,none⟩),.slice none 0 0,f] w (PenR W0 Y b (o++[0])):=by
 have H0:=Lib.hid h
 clear h
 go_enter Tryz.func82,Tryz.ntmps82
 go_wp2_with fail
 refine (pid_c 0 (by decide) H0.out (by omega)).mono ?_
 rintro e w1 ⟨rfl,h1⟩
 have H1:=Lib.hid (h1.to (l':=o++[0]) rfl)
 clear h1 H0
 go_wp2_with fail
 go_loopw [15] (fun i wr=>i=.int .i64 0∧Hid (wr=w1)) (fun _ _=>0)
 case atStart=>exact ⟨rfl,Lib.hid rfl⟩
 case round=>
  obtain ⟨rfl,hwr⟩:=hrel
  have hwr:=hwr.out
  subst hwr
  go_wp2_with fail
  go_end0
  exact ⟨rfl,H1.out⟩
theorem smT0 {W0 w:World} {b:Nat} {l:List UInt8} (f:Value) (h:EyeS W0 b (l,true) w) :
  Calls Tryz.prog 93 #[.pointer (some ⟨b,0,none⟩),f] w (EyeR W0 b (l,true) (.slice none 0 0) w):=by
 have H0:=Lib.hid h
 have CI:=Lib.hid (eid_c h)
 rw [show idR (l,true)=(0,(l,true)) from rfl] at CI
 clear h
 go_enter Tryz.func93,Tryz.ntmps93
 go_wp2_with fail
 refine CI.out.mono ?_
 rintro e w1 ⟨rfl,h1,h2⟩
 have H1:=Lib.hid h1
 have O1:=Lib.hid h2
 clear h1 h2 CI
 obtain ⟨hz,x0,x1,z0,z1⟩:=ebox H1.out
 simp only at x0 x1
 go_wp2_with fail
 go_loopw [5,6] (fun n v wr=>n=.int .u64 0∧v=.slice none 0 0∧Hid (wr=w1)) (fun _ _ _=>0)
 case atStart=>exact ⟨rfl,rfl,Lib.hid rfl⟩
 case round=>
  obtain ⟨rfl,rfl,hwr⟩:=hrel
  have hwr:=hwr.out
  subst hwr
  go_wp2_with fail
  go_ret
  exact ⟨rfl,H1.out,O1.out⟩
theorem smL0 {W0 w:World} {b:Nat} {l:List UInt8} (f:Value) (h:EyeS W0 b (l,true) w) :
  Calls Tryz.prog 95 #[.pointer (some ⟨b,0,none⟩),f] w (EyeR W0 b (l,true) (.slice none 0 0) w):=by
 have H0:=Lib.hid h
 have CI:=Lib.hid (eid_c h)
 rw [show idR (l,true)=(0,(l,true)) from rfl] at CI
 clear h
 go_enter Tryz.func95,Tryz.ntmps95
 go_wp2_with fail
 refine CI.out.mono ?_
 rintro e w1 ⟨rfl,h1,h2⟩
 have H1:=Lib.hid h1
 have O1:=Lib.hid h2
 clear h1 h2 CI
 obtain ⟨hz,x0,x1,z0,z1⟩:=ebox H1.out
 simp only at x0 x1
 go_wp2_with fail
 go_loopw [5,6] (fun n v wr=>n=.int .u64 0∧v=.slice none 0 0∧Hid (wr=w1)) (fun _ _ _=>0)
 case atStart=>exact ⟨rfl,rfl,Lib.hid rfl⟩
 case round=>
  obtain ⟨rfl,rfl,hwr⟩:=hrel
  have hwr:=hwr.out
  subst hwr
  go_wp2_with fail
  go_ret
  exact ⟨rfl,H1.out,O1.out⟩
theorem smS0 {W0 w:World} {b:Nat} {l:List UInt8} (f:Value) (h:EyeS W0 b (l,true) w) :
  Calls Tryz.prog 97 #[.pointer (some ⟨b,0,none⟩),f] w (EyeR W0 b (l,true) (.slice none 0 0) w):=by
 have H0:=Lib.hid h
 have CI:=Lib.hid (eid_c h)
 rw [show idR (l,true)=(0,(l,true)) from rfl] at CI
 clear h
 go_enter Tryz.func97,Tryz.ntmps97
 go_wp2_with fail
 refine CI.out.mono ?_
 rintro e w1 ⟨rfl,h1,h2⟩
 have H1:=Lib.hid h1
 have O1:=Lib.hid h2
 clear h1 h2 CI
 obtain ⟨hz,x0,x1,z0,z1⟩:=ebox H1.out
 simp only at x0 x1
 go_wp2_with fail
 go_loopw [5,6] (fun n v wr=>n=.int .u64 0∧v=.slice none 0 0∧Hid (wr=w1)) (fun _ _ _=>0)
 case atStart=>exact ⟨rfl,rfl,Lib.hid rfl⟩
 case round=>
  obtain ⟨rfl,rfl,hwr⟩:=hrel
  have hwr:=hwr.out
  subst hwr
  go_wp2_with fail
  go_ret
  exact ⟨rfl,H1.out,O1.out⟩
theorem smO0 {W0 w:World} {b:Nat} {l:List UInt8} (f:Value) (h:EyeS W0 b (l,true) w) :
  Calls Tryz.prog 99 #[.pointer (some ⟨b,0,none⟩),f] w (EyeR W0 b (l,true) (.slice none 0 0) w):=by
 have H0:=Lib.hid h
 have CI:=Lib.hid (eid_c h)
 rw [show idR (l,true)=(0,(l,true)) from rfl] at CI
 clear h
 go_enter Tryz.func99,Tryz.ntmps99
 go_wp2_with fail
 refine CI.out.mono ?_
 rintro e w1 ⟨rfl,h1,h2⟩
 have H1:=Lib.hid h1
 have O1:=Lib.hid h2
 clear h1 h2 CI
 obtain ⟨hz,x0,x1,z0,z1⟩:=ebox H1.out
 simp only at x0 x1
 go_wp2_with fail
 go_loopw [5,6] (fun n v wr=>n=.int .u64 0∧v=.slice none 0 0∧Hid (wr=w1)) (fun _ _ _=>0)
 case atStart=>exact ⟨rfl,rfl,Lib.hid rfl⟩
 case round=>
  obtain ⟨rfl,rfl,hwr⟩:=hrel
  have hwr:=hwr.out
  subst hwr
  go_wp2_with fail
  go_ret
  exact ⟨rfl,H1.out,O1.out⟩
theorem smD0 {W0 w:World} {b:Nat} {l:List UInt8} (f:Value) (h:EyeS W0 b (l,true) w) :
  Calls Tryz.prog 101 #[.pointer (some ⟨b,0,none⟩),f] w (EyeR W0 b (l,true) (.slice none 0 0) w):=by
 have H0:=Lib.hid h
 have CI:=Lib.hid (eid_c h)
 rw [show idR (l,true)=(0,(l,true)) from rfl] at CI
 clear h
 go_enter Tryz.func101,Tryz.ntmps101
 go_wp2_with fail
 refine CI.out.mono ?_
 rintro e w1 ⟨rfl,h1,h2⟩
 have H1:=Lib.hid h1
 have O1:=Lib.hid h2
 clear h1 h2 CI
 obtain ⟨hz,x0,x1,z0,z1⟩:=ebox H1.out
 simp only at x0 x1
 go_wp2_with fail
 go_loopw [5,6] (fun n v wr=>n=.int .u64 0∧v=.slice none 0 0∧Hid (wr=w1)) (fun _ _ _=>0)
 case atStart=>exact ⟨rfl,rfl,Lib.hid rfl⟩
 case round=>
  obtain ⟨rfl,rfl,hwr⟩:=hrel
  have hwr:=hwr.out
  subst hwr
  go_wp2_with fail
  go_ret
  exact ⟨rfl,H1.out,O1.out⟩
theorem subs0 (w:World):Calls Tryz.prog 70 #[.agg #[.int .i64 0,.slice none 0 0,.slice none 0 0,.slice none 0 0,.int .i64 0,.slice none 0 0,.slice none 0 0,.slice none 0 0]] w fun e w'=>e=.returned (.bool true)∧Below w.heap.size w w':=by
 have HX:=Lib.hid (Var.new w 28 [.int .i64 0,.slice none 0 0,.slice none 0 0,.slice none 0 0,.int .i64 0,.slice none 0 0,.slice none 0 0,.slice none 0 0])
 have HB:=Lib.hid (balloc (.cells #[.int .i64 0,.slice none 0 0,.slice none 0 0,.slice none 0 0,.int .i64 0,.slice none 0 0,.slice none 0 0,.slice none 0 0] 28) (.refl w.heap.size w))
 have XX:=HX.out.cells
 simp only [VarC,Nat.reduceAdd,Nat.zero_add,and_true] at XX
 obtain ⟨x0,x1,x2,x3,x4,x5,x6,x7⟩:=XX
 go_enter Tryz.func70,Tryz.ntmps70
 go_upto_region 1 with fail
 have HV:=HX
 clear HX
 revert HV HB x0 x1 x2 x3 x4 x5 x6 x7
 rw [show (w.alloc (.cells [.int .i64 0,.slice none 0 0,.slice none 0 0,.slice none 0 0,.int .i64 0,.slice none 0 0,.slice none 0 0,.slice none 0 0].toArray 28))=w.alloc (.cells #[.int .i64 0,.slice none 0 0,.slice none 0 0,.slice none 0 0,.int .i64 0,.slice none 0 0,.slice none 0 0,.slice none 0 0] 28) from rfl]
 generalize w.alloc (.cells #[.int .i64 0,.slice none 0 0,.slice none 0 0,.slice none 0 0,.int .i64 0,.slice none 0 0,.slice none 0 0,.slice none 0 0] 28)=Z
 intro HB x0 x1 x2 x3 x4 x5 x6 x7 HV
 go_wp2_with fail
 go_loopw [12] (fun i wr=>i=.int .i64 0∧Hid (wr=Z)) (fun _ _=>0)
 case atStart=>exact ⟨rfl,Lib.hid rfl⟩
 case round=>
  obtain ⟨rfl,hwr⟩:=hrel
  have hwr:=hwr.out
  subst hwr
  go_wp2_with fail
  go_ret
  exact ⟨rfl,HB.out⟩
theorem dead0 (w:World):Calls Tryz.prog 72 #[.agg #[.int .i64 0,.slice none 0 0,.slice none 0 0,.slice none 0 0,.int .i64 0,.slice none 0 0,.slice none 0 0,.slice none 0 0]] w fun e w'=>e=.returned (.bool true)∧Below w.heap.size w w':=by
 have HX:=Lib.hid (Var.new w 28 [.int .i64 0,.slice none 0 0,.slice none 0 0,.slice none 0 0,.int .i64 0,.slice none 0 0,.slice none 0 0,.slice none 0 0])
 have HB:=Lib.hid (balloc (.cells #[.int .i64 0,.slice none 0 0,.slice none 0 0,.slice none 0 0,.int .i64 0,.slice none 0 0,.slice none 0 0,.slice none 0 0] 28) (.refl w.heap.size w))
 have XX:=HX.out.cells
 simp only [VarC,Nat.reduceAdd,Nat.zero_add,and_true] at XX
 obtain ⟨x0,x1,x2,x3,x4,x5,x6,x7⟩:=XX
 go_enter Tryz.func72,Tryz.ntmps72
 go_upto_region 1 with fail
 have HV:=HX
 clear HX
 revert HV HB x0 x1 x2 x3 x4 x5 x6 x7
 rw [show (w.alloc (.cells [.int .i64 0,.slice none 0 0,.slice none 0 0,.slice none 0 0,.int .i64 0,.slice none 0 0,.slice none 0 0,.slice none 0 0].toArray 28))=w.alloc (.cells #[.int .i64 0,.slice none 0 0,.slice none 0 0,.slice none 0 0,.int .i64 0,.slice none 0 0,.slice none 0 0,.slice none 0 0] 28) from rfl]
 generalize w.alloc (.cells #[.int .i64 0,.slice none 0 0,.slice none 0 0,.slice none 0 0,.int .i64 0,.slice none 0 0,.slice none 0 0,.slice none 0 0] 28)=Z
 intro HB x0 x1 x2 x3 x4 x5 x6 x7 HV
 go_wp2_with fail
 go_loopw [15] (fun i wr=>i=.int .i64 0∧Hid (wr=Z)) (fun _ _=>0)
 case atStart=>exact ⟨rfl,Lib.hid rfl⟩
 case round=>
  obtain ⟨rfl,hwr⟩:=hrel
  have hwr:=hwr.out
  subst hwr
  go_wp2_with fail
  go_ret
  exact ⟨rfl,HB.out⟩
theorem idx0 (w:World):(Instr.index 190 (.agg #[.slice none 0 0,.slice none 0 0]) (.int .i64 0)).run Tryz.prog w=.ok (.slice none 0 0) w:=by kernel_rfl
theorem idx1 (w:World):(Instr.index 190 (.agg #[.slice none 0 0,.slice none 0 0]) (.int .i64 1)).run Tryz.prog w=.ok (.slice none 0 0) w:=by kernel_rfl
theorem out0 (w:World):Calls Tryz.prog 71 #[.agg #[.int .i64 0,.slice none 0 0,.slice none 0 0,.slice none 0 0,.int .i64 0,.slice none 0 0,.slice none 0 0,.slice none 0 0]] w fun e w'=>e=.returned (.bool true)∧Below w.heap.size w w':=by
 have HX:=Lib.hid (Var.new w 28 [.int .i64 0,.slice none 0 0,.slice none 0 0,.slice none 0 0,.int .i64 0,.slice none 0 0,.slice none 0 0,.slice none 0 0])
 have HB:=Lib.hid (balloc (.cells #[.int .i64 0,.slice none 0 0,.slice none 0 0,.slice none 0 0,.int .i64 0,.slice none 0 0,.slice none 0 0,.slice none 0 0] 28) (.refl w.heap.size w))
 have XX:=HX.out.cells
 simp only [VarC,Nat.reduceAdd,Nat.zero_add,and_true] at XX
 obtain ⟨x0,x1,x2,x3,x4,x5,x6,x7⟩:=XX
 go_enter Tryz.func71,Tryz.ntmps71
 go_upto_region 1 with fail
 have HV:=HX
 clear HX
 revert HV HB x0 x1 x2 x3 x4 x5 x6 x7
 rw [show (w.alloc (.cells [.int .i64 0,.slice none 0 0,.slice none 0 0,.slice none 0 0,.int .i64 0,.slice none 0 0,.slice none 0 0,.slice none 0 0].toArray 28))=w.alloc (.cells #[.int .i64 0,.slice none 0 0,.slice none 0 0,.slice none 0 0,.int .i64 0,.slice none 0 0,.slice none 0 0,.slice none 0 0] 28) from rfl]
 generalize w.alloc (.cells #[.int .i64 0,.slice none 0 0,.slice none 0 0,.slice none 0 0,.int .i64 0,.slice none 0 0,.slice none 0 0,.slice none 0 0] 28)=Z
 intro HB x0 x1 x2 x3 x4 x5 x6 x7 HV
 go_wp2_with fail
 refine (ochk0 _).mono ?_
 rintro e w1 ⟨rfl,rfl⟩
 go_wp2_with fail
 refine (ochk0 _).mono ?_
 rintro e w1 ⟨rfl,rfl⟩
 go_wp2_with fail
 have HX:Hid (Var Z w.heap.size 28 [.int .i64 0,.slice none 0 0,.slice none 0 0,.slice none 0 0,.int .i64 0,.slice none 0 0,.slice none 0 0,.slice none 0 0]):=Lib.hid HV.out
 clear HV
 go_loopw [29] (fun i wr=>∃ k:Nat,k≤2∧i=.int .i64 k∧Hid (Var wr w.heap.size 28 [.int .i64 0,.slice none 0 0,.slice none 0 0,.slice none 0 0,.int .i64 0,.slice none 0 0,.slice none 0 0,.slice none 0 0])∧Hid (Below w.heap.size w wr)) (fun i _=>2 - (intOf i).toNat)
 case atStart=>exact ⟨0,by omega,rfl,HX,HB⟩
 case round=>
  clear HX HB x0 x1 x2 x3 x4 x5 x6 x7
  obtain ⟨k,hk,rfl,HX,HB⟩:=hrel
  obtain ⟨wo,rfl⟩:∃ wo,wo=wr:=⟨_,rfl⟩
  have XX:=HX.out.cells
  simp only [VarC,Nat.reduceAdd,Nat.zero_add,and_true] at XX
  obtain ⟨x0,x1,x2,x3,x4,x5,x6,x7⟩:=XX
  obtain rfl | rfl | rfl:k=0∨k=1∨k=2:=by omega
  ·
   have i0:=idx0
   go_wp2_with fail
   go_quiet (fail)
   go_wp2_with fail
   go_roundw
   case rel=>exact ⟨1,by omega,rfl,Lib.hid HX.out,Lib.hid (bstep (below_drewN wo _) HB.out)⟩
   case measure=>simp [intOf]
  ·
   have i1:=idx1
   go_wp2_with fail
   go_quiet (fail)
   go_wp2_with fail
   go_roundw
   case rel=>exact ⟨2,by omega,rfl,Lib.hid HX.out,Lib.hid (bstep (below_drewN wo _) HB.out)⟩
   case measure=>simp [intOf]
  ·
   go_wp2_with fail
   go_loopw [5,6] (fun a c wr=>a=.int .i64 0∧c=.int .i64 0∧Hid (wr=wo)) (fun _ _ _=>0)
   case atStart=>exact ⟨rfl,rfl,Lib.hid rfl⟩
   case round=>
    obtain ⟨rfl,rfl,hwr⟩:=hrel
    have hwr:=hwr.out
    subst hwr
    go_wp2_with fail
    go_ret
    exact ⟨rfl,HB.out⟩
theorem check0 (w:World):Calls Tryz.prog 31 #[.agg #[.int .i64 0,.slice none 0 0,.slice none 0 0,.slice none 0 0,.int .i64 0,.slice none 0 0,.slice none 0 0,.slice none 0 0]] w fun e w'=>e=.returned (.int .i64 0)∧Below w.heap.size w w':=by
 have HX:=Lib.hid (Var.new w 28 [.int .i64 0,.slice none 0 0,.slice none 0 0,.slice none 0 0,.int .i64 0,.slice none 0 0,.slice none 0 0,.slice none 0 0])
 have HB:=Lib.hid (balloc (.cells #[.int .i64 0,.slice none 0 0,.slice none 0 0,.slice none 0 0,.int .i64 0,.slice none 0 0,.slice none 0 0,.slice none 0 0] 28) (.refl w.heap.size w))
 have XX:=HX.out.cells
 simp only [VarC,Nat.reduceAdd,Nat.zero_add,and_true] at XX
 obtain ⟨x0,x1,x2,x3,x4,x5,x6,x7⟩:=XX
 go_enter Tryz.func31,Tryz.ntmps31
 go_upto_region 1 with fail
 have HV:=HX
 clear HX
 revert HB x0 x1 x2 x3 x4 x5 x6 x7 HV
 rw [show (w.alloc (.cells [.int .i64 0,.slice none 0 0,.slice none 0 0,.slice none 0 0,.int .i64 0,.slice none 0 0,.slice none 0 0,.slice none 0 0].toArray 28))=w.alloc (.cells #[.int .i64 0,.slice none 0 0,.slice none 0 0,.slice none 0 0,.int .i64 0,.slice none 0 0,.slice none 0 0,.slice none 0 0] 28) from rfl]
 generalize w.alloc (.cells #[.int .i64 0,.slice none 0 0,.slice none 0 0,.slice none 0 0,.int .i64 0,.slice none 0 0,.slice none 0 0,.slice none 0 0] 28)=Z
 intro HB x0 x1 x2 x3 x4 x5 x6 x7 HV
 go_wp2_with fail
 refine (tchk0 _).mono ?_
 rintro e w1 ⟨rfl,rfl⟩
 go_wp2_with fail
 refine (dchk0 _).mono ?_
 rintro e w1 ⟨rfl,rfl⟩
 go_wp2_with fail
 refine (subs0 _).mono ?_
 rintro e w1 ⟨rfl,b1⟩
 have V1:=Lib.hid (HV.out.grow b1)
 have B1:=Lib.hid (bstep b1 HB.out)
 clear b1 x0 x1 x2 x3 x4 x5 x6 x7
 have XX:=V1.out.cells
 simp only [VarC,Nat.reduceAdd,Nat.zero_add,and_true] at XX
 obtain ⟨x0,x1,x2,x3,x4,x5,x6,x7⟩:=XX
 go_wp2_with fail
 refine (out0 _).mono ?_
 rintro e w2 ⟨rfl,b2⟩
 have V2:=Lib.hid (V1.out.grow b2)
 have B2:=Lib.hid (bstep b2 B1.out)
 clear b2 x0 x1 x2 x3 x4 x5 x6 x7
 have XX:=V2.out.cells
 simp only [VarC,Nat.reduceAdd,Nat.zero_add,and_true] at XX
 obtain ⟨x0,x1,x2,x3,x4,x5,x6,x7⟩:=XX
 go_wp2_with fail
 refine (dead0 _).mono ?_
 rintro e w3 ⟨rfl,b3⟩
 have B3:=Lib.hid (bstep b3 B2.out)
 clear b3 x0 x1 x2 x3 x4 x5 x6 x7
 go_wp2_with fail
 go_ret
 exact ⟨rfl,B3.out⟩
theorem prouter0 {W0 Y w:World} {b:Nat} (h:PenS W0 Y b [] w) :
  Calls Tryz.prog 32 #[.pointer (some ⟨b,0,none⟩),.agg #[.int .i64 0,.slice none 0 0,.slice none 0 0,.slice none 0 0,.int .i64 0,.slice none 0 0,.slice none 0 0,.slice none 0 0]] w (PenR W0 Y b [0,0,0,0,0,0,0,0]):=by
 have H0:=Lib.hid h
 have hbw:=h.lt
 clear h
 have HX:=Lib.hid (Var.new w 28 [.int .i64 0,.slice none 0 0,.slice none 0 0,.slice none 0 0,.int .i64 0,.slice none 0 0,.slice none 0 0,.slice none 0 0])
 have B0:=Lib.hid (balloc (.cells #[.int .i64 0,.slice none 0 0,.slice none 0 0,.slice none 0 0,.int .i64 0,.slice none 0 0,.slice none 0 0,.slice none 0 0] 28) (.refl w.heap.size w))
 have H1:=Lib.hid (H0.out.enter B0.out)
 go_enter Tryz.func32,Tryz.ntmps32
 go_upto_region 1 with fail
 have HV:=HX
 clear HX
 revert B0 H1 HV
 rw [show (w.alloc (.cells [.int .i64 0,.slice none 0 0,.slice none 0 0,.slice none 0 0,.int .i64 0,.slice none 0 0,.slice none 0 0,.slice none 0 0].toArray 28))=w.alloc (.cells #[.int .i64 0,.slice none 0 0,.slice none 0 0,.slice none 0 0,.int .i64 0,.slice none 0 0,.slice none 0 0,.slice none 0 0] 28) from rfl]
 generalize w.alloc (.cells #[.int .i64 0,.slice none 0 0,.slice none 0 0,.slice none 0 0,.int .i64 0,.slice none 0 0,.slice none 0 0,.slice none 0 0] 28)=Z
 intro B0 H1 HX
 have hgb:w.heap.size≠b:=by omega
 generalize w.heap.size=g at HX hgb ⊢
 have XX:=HX.out.cells
 simp only [VarC,Nat.reduceAdd,Nat.zero_add,and_true] at XX
 obtain ⟨x0,x1,x2,x3,x4,x5,x6,x7⟩:=XX
 go_wp2_with fail
 refine (pnumber_c 0 (by decide) (by decide) H1.out (by decide)).mono ?_
 rintro e w2 ⟨rfl,h2⟩
 have H2:=Lib.hid h2
 clear h2 H1 x0 x1 x2 x3 x4 x5 x6 x7
 have XX:=(Var.kept H2.out HX.out hgb (by decide)).cells
 simp only [VarC,Nat.reduceAdd,Nat.zero_add,and_true] at XX
 obtain ⟨x0,x1,x2,x3,x4,x5,x6,x7⟩:=XX
 go_wp2_with fail
 refine (lstT0 _ (H2.out.to (l':=[0]) rfl) (by decide)).mono ?_
 rintro e w3 ⟨rfl,h3⟩
 have H3:=Lib.hid h3
 clear h3 H2 x0 x1 x2 x3 x4 x5 x6 x7
 have XX:=(Var.kept H3.out HX.out hgb (by decide)).cells
 simp only [VarC,Nat.reduceAdd,Nat.zero_add,and_true] at XX
 obtain ⟨x0,x1,x2,x3,x4,x5,x6,x7⟩:=XX
 go_wp2_with fail
 refine (lstL0 _ H3.out (by decide)).mono ?_
 rintro e w4 ⟨rfl,h4⟩
 have H4:=Lib.hid h4
 clear h4 H3 x0 x1 x2 x3 x4 x5 x6 x7
 have XX:=(Var.kept H4.out HX.out hgb (by decide)).cells
 simp only [VarC,Nat.reduceAdd,Nat.zero_add,and_true] at XX
 obtain ⟨x0,x1,x2,x3,x4,x5,x6,x7⟩:=XX
 go_wp2_with fail
 refine (lstS0 _ H4.out (by decide)).mono ?_
 rintro e w5 ⟨rfl,h5⟩
 have H5:=Lib.hid h5
 clear h5 H4 x0 x1 x2 x3 x4 x5 x6 x7
 have XX:=(Var.kept H5.out HX.out hgb (by decide)).cells
 simp only [VarC,Nat.reduceAdd,Nat.zero_add,and_true] at XX
 obtain ⟨x0,x1,x2,x3,x4,x5,x6,x7⟩:=XX
 go_wp2_with fail
 refine (pnumber_c 0 (by decide) (by decide) H5.out (by decide)).mono ?_
 rintro e w6 ⟨rfl,h6⟩
 have H6:=Lib.hid h6
 clear h6 H5 x0 x1 x2 x3 x4 x5 x6 x7
 have XX:=(Var.kept H6.out HX.out hgb (by decide)).cells
 simp only [VarC,Nat.reduceAdd,Nat.zero_add,and_true] at XX
 obtain ⟨x0,x1,x2,x3,x4,x5,x6,x7⟩:=XX
 go_wp2_with fail
 refine (lstO0 _ (H6.out.to (l':=[0,0,0,0,0]) rfl) (by decide)).mono ?_
 rintro e w7 ⟨rfl,h7⟩
 have H7:=Lib.hid h7
 clear h7 H6 x0 x1 x2 x3 x4 x5 x6 x7
 have XX:=(Var.kept H7.out HX.out hgb (by decide)).cells
 simp only [VarC,Nat.reduceAdd,Nat.zero_add,and_true] at XX
 obtain ⟨x0,x1,x2,x3,x4,x5,x6,x7⟩:=XX
 go_wp2_with fail
 refine (lstO0 _ H7.out (by decide)).mono ?_
 rintro e w8 ⟨rfl,h8⟩
 have H8:=Lib.hid h8
 clear h8 H7 x0 x1 x2 x3 x4 x5 x6 x7
 have XX:=(Var.kept H8.out HX.out hgb (by decide)).cells
 simp only [VarC,Nat.reduceAdd,Nat.zero_add,and_true] at XX
 obtain ⟨x0,x1,x2,x3,x4,x5,x6,x7⟩:=XX
 go_wp2_with fail
 refine (lstD0 _ H8.out (by decide)).mono ?_
 rintro e w9 ⟨rfl,h9⟩
 have H9:=Lib.hid h9
 clear h9 H8 x0 x1 x2 x3 x4 x5 x6 x7
 have XX:=(Var.kept H9.out HX.out hgb (by decide)).cells
 simp only [VarC,Nat.reduceAdd,Nat.zero_add,and_true] at XX
 obtain ⟨x0,x1,x2,x3,x4,x5,x6,x7⟩:=XX
 go_wp2_with fail
 go_end0
 exact ⟨rfl,(H0.out.leave B0.out H9.out)⟩
theorem lay0 (w:World):Calls Tryz.prog 10 #[.agg #[.int .i64 0,.slice none 0 0,.slice none 0 0,.slice none 0 0,.int .i64 0,.slice none 0 0,.slice none 0 0,.slice none 0 0]] w fun e w'=>e=.returned (.tuple #[.string ⟨#[0,0,0,0,0,0,0,0]⟩,.int .i64 0])∧Below w.heap.size w w':=by
 have HX:=Lib.hid (Var.new w 28 [.int .i64 0,.slice none 0 0,.slice none 0 0,.slice none 0 0,.int .i64 0,.slice none 0 0,.slice none 0 0,.slice none 0 0])
 have HB:=Lib.hid (balloc (.cells #[.int .i64 0,.slice none 0 0,.slice none 0 0,.slice none 0 0,.int .i64 0,.slice none 0 0,.slice none 0 0,.slice none 0 0] 28) (.refl w.heap.size w))
 have XX:=HX.out.cells
 simp only [VarC,Nat.reduceAdd,Nat.zero_add,and_true] at XX
 obtain ⟨x0,x1,x2,x3,x4,x5,x6,x7⟩:=XX
 go_enter Tryz.func10,Tryz.ntmps10
 go_upto_region 1 with fail
 have HV:=HX
 clear HX
 revert HB x0 x1 x2 x3 x4 x5 x6 x7 HV
 rw [show (w.alloc (.cells [.int .i64 0,.slice none 0 0,.slice none 0 0,.slice none 0 0,.int .i64 0,.slice none 0 0,.slice none 0 0,.slice none 0 0].toArray 28))=w.alloc (.cells #[.int .i64 0,.slice none 0 0,.slice none 0 0,.slice none 0 0,.int .i64 0,.slice none 0 0,.slice none 0 0,.slice none 0 0] 28) from rfl]
 generalize w.alloc (.cells #[.int .i64 0,.slice none 0 0,.slice none 0 0,.slice none 0 0,.int .i64 0,.slice none 0 0,.slice none 0 0,.slice none 0 0] 28)=Z
 intro HB x0 x1 x2 x3 x4 x5 x6 x7 HV
 go_wp2_with fail
 refine (check0 _).mono ?_
 rintro e w2 ⟨rfl,b2⟩
 have HP:=Lib.hid (show PenS w2 (w2.alloc (.cells #[.pointer none,.slice none 0 0] 81)) w2.heap.size [] (w2.alloc (.cells #[.pointer none,.slice none 0 0] 81)) from ⟨Lib.fresh_isBuilder 81 5 w2,balloc _ (.refl _ _),Kept.refl _ _⟩)
 have V2:=Lib.hid (HV.out.grow (balloc (.cells #[.pointer none,.slice none 0 0] 81) b2))
 have B2:=Lib.hid (bstep b2 HB.out)
 clear b2 x0 x1 x2 x3 x4 x5 x6 x7
 go_upto_region 4 with fail
 revert HP V2
 generalize w2.alloc (.cells #[.pointer none,.slice none 0 0] 81)=Y
 intro HP V2
 have XX:=V2.out.cells
 simp only [VarC,Nat.reduceAdd,Nat.zero_add,and_true] at XX
 obtain ⟨x0,x1,x2,x3,x4,x5,x6,x7⟩:=XX
 go_wp2_with fail
 refine (prouter0 HP.out).mono ?_
 rintro e w3 ⟨rfl,h3⟩
 have H3:=Lib.hid h3
 clear h3 HP V2 x0 x1 x2 x3 x4 x5 x6 x7
 go_wp2_with fail
 refine (stringT_c w2.heap.size _ _ _ H3.out.bld (by simp)).mono ?_
 rintro e w4 ⟨rfl,b4⟩
 have B4:=Lib.hid (bstep (H3.out.low.trans b4) B2.out)
 clear b4 H3
 go_wp2_with fail
 go_ret2
 exact ⟨rfl,B4.out⟩
end Go.Proofs.YtcbicdencgjfiaaGreatDoor
