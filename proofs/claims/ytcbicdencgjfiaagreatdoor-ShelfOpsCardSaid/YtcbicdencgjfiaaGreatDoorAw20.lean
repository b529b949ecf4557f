/- shelf.Take of no octets -/
import Derived.Test.YtcbicdencgjfiaaGreatDoorEmp20
import Derived.Test.YtcbicdencgjfiaaGreatDoorFewDB14
set_option linter.unusedVariables false
set_option linter.unusedSimpArgs false
namespace Go.Proofs.YtcbicdencgjfiaaGreatDoor
open Go.RowKit Tryst
set_option maxHeartbeats 4000000
set_option maxRecDepth 20000
theorem enum0 {W0 w:World} {b:Nat} {d:Bool} (h:EyeS W0 b ([],d) w):Calls Tryz.prog 92 #[.pointer (some ⟨b,0,none⟩)] w (EyeR W0 b ([],true) (.int .i64 0) w):=by
 have h1:=enumber_c h
 cases d with
 | false=>exact h1
 | true=>exact h1
theorem erouter0 {W0 w:World} {b:Nat} (h:EyeS W0 b ([],false) w) :
  Calls Tryz.prog 41 #[.pointer (some ⟨b,0,none⟩)] w (EyeR W0 b ([],true) (.agg #[.int .i64 0,.slice none 0 0,.slice none 0 0,.slice none 0 0,.int .i64 0,.slice none 0 0,.slice none 0 0,.slice none 0 0]) w):=by
 have D0:=Lib.hid (ED.start (T:=28) (z:=[.int .i64 0,.slice none 0 0,.slice none 0 0,.slice none 0 0,.int .i64 0,.slice none 0 0,.slice none 0 0,.slice none 0 0]) h)
 have hbw:=h.v.lt
 clear h
 go_enter Tryz.func41,Tryz.ntmps41
 go_wp2_with fail
 refine (enum0 D0.out.eye).mono ?_
 rintro e w1 ⟨rfl,h1,o1⟩
 have hf1:=D0.out.fz o1 0
 have hk1:=D0.out.cl o1 0 rfl
 have D1:=Lib.hid (D0.out.step h1 o1 0 (.int .i64 0))
 clear h1 o1 D0
 go_wp2_with fail
 refine (smT0 _ D1.out.eye).mono ?_
 rintro e w2 ⟨rfl,h2,o2⟩
 have hf2:=D1.out.fz o2 1
 have hk2:=D1.out.cl o2 1 rfl
 have D2:=Lib.hid (D1.out.step h2 o2 1 (.slice none 0 0))
 clear h2 o2 D1
 go_wp2_with fail
 refine (smL0 _ D2.out.eye).mono ?_
 rintro e w3 ⟨rfl,h3,o3⟩
 have hf3:=D2.out.fz o3 2
 have hk3:=D2.out.cl o3 2 rfl
 have D3:=Lib.hid (D2.out.step h3 o3 2 (.slice none 0 0))
 clear h3 o3 D2
 go_wp2_with fail
 refine (smS0 _ D3.out.eye).mono ?_
 rintro e w4 ⟨rfl,h4,o4⟩
 have hf4:=D3.out.fz o4 3
 have hk4:=D3.out.cl o4 3 rfl
 have D4:=Lib.hid (D3.out.step h4 o4 3 (.slice none 0 0))
 clear h4 o4 D3
 go_wp2_with fail
 refine (enum0 D4.out.eye).mono ?_
 rintro e w5 ⟨rfl,h5,o5⟩
 have hf5:=D4.out.fz o5 4
 have hk5:=D4.out.cl o5 4 rfl
 have D5:=Lib.hid (D4.out.step h5 o5 4 (.int .i64 0))
 clear h5 o5 D4
 go_wp2_with fail
 refine (smO0 _ D5.out.eye).mono ?_
 rintro e w6 ⟨rfl,h6,o6⟩
 have hf6:=D5.out.fz o6 5
 have hk6:=D5.out.cl o6 5 rfl
 have D6:=Lib.hid (D5.out.step h6 o6 5 (.slice none 0 0))
 clear h6 o6 D5
 go_wp2_with fail
 refine (smO0 _ D6.out.eye).mono ?_
 rintro e w7 ⟨rfl,h7,o7⟩
 have hf7:=D6.out.fz o7 6
 have hk7:=D6.out.cl o7 6 rfl
 have D7:=Lib.hid (D6.out.step h7 o7 6 (.slice none 0 0))
 clear h7 o7 D6
 go_wp2_with fail
 refine (smD0 _ D7.out.eye).mono ?_
 rintro e w8 ⟨rfl,h8,o8⟩
 have hgz:=D7.out.hb
 have D8:=Lib.hid (D7.out.step h8 o8 7 (.slice none 0 0))
 have VV:Hid (Var w8 (w.heap.size+1) 28 [.int .i64 0,.slice none 0 0,.slice none 0 0,.slice none 0 0,.int .i64 0,.slice none 0 0,.slice none 0 0,.slice none 0 0]):=Lib.hid (D7.out.vv.oth o8 (by omega))
 have ZZ:=Lib.hid (D7.out.zz.oth o8 (by omega))
 have vf:=VV.out.fz
 have zf:=ZZ.out.fz
 have zl:=ZZ.out.lt
 clear h8 o8 D7 hf1 hf2 hf3 hf4 hf5 hf6 hf7 hk1 hk2 hk3 hk4 hk5 hk6 hk7
 have XX:=VV.out.cells
 simp only [VarC,Nat.reduceAdd,Nat.zero_add,and_true] at XX
 obtain ⟨x0,x1,x2,x3,x4,x5,x6,x7⟩:=XX
 have XX:=ZZ.out.cells
 simp only [VarC,Nat.reduceAdd,Nat.zero_add,and_true] at XX
 obtain ⟨u0,u1,u2,u3,u4,u5,u6,u7⟩:=XX
 go_wp2_with fail
 refine bodyPost_ret (v:=.agg #[.int .i64 0,.slice none 0 0,.slice none 0 0,.slice none 0 0,.int .i64 0,.slice none 0 0,.slice none 0 0,.slice none 0 0]) (by simp [results,Tryz.results41,go_sem, *]) rfl ?_
 obtain ⟨q1,q2⟩:=D8.out.fin [.int .i64 0,.slice none 0 0,.slice none 0 0,.slice none 0 0,.int .i64 0,.slice none 0 0,.slice none 0 0,.slice none 0 0]
 exact ⟨rfl,q1,q2⟩
theorem take0 (w:World):Calls Tryz.prog 13 #[.string ⟨#[]⟩] w fun e w'=>e=.returned (.tuple #[.agg #[.int .i64 0,.slice none 0 0,.slice none 0 0,.slice none 0 0,.int .i64 0,.slice none 0 0,.slice none 0 0,.slice none 0 0],.int .i64 2])∧Below w.heap.size w w':=by
 have HZ:=Lib.hid (Var.new w 28 [.int .i64 0,.slice none 0 0,.slice none 0 0,.slice none 0 0,.int .i64 0,.slice none 0 0,.slice none 0 0,.slice none 0 0])
 have HB0:=Lib.hid (balloc (.cells #[.int .i64 0,.slice none 0 0,.slice none 0 0,.slice none 0 0,.int .i64 0,.slice none 0 0,.slice none 0 0,.slice none 0 0] 28) (.refl w.heap.size w))
 have hsz:(w.alloc (.cells #[.int .i64 0,.slice none 0 0,.slice none 0 0,.slice none 0 0,.int .i64 0,.slice none 0 0,.slice none 0 0,.slice none 0 0] 28)).heap.size=w.heap.size+1:=by simp
 have HSZ:=Lib.hid hsz
 clear hsz
 go_enter Tryz.func13,Tryz.ntmps13
 go_upto_region 1 with fail
 have HV:=HZ
 clear HZ
 revert HB0 HSZ HV
 rw [show (w.alloc (.cells [.int .i64 0,.slice none 0 0,.slice none 0 0,.slice none 0 0,.int .i64 0,.slice none 0 0,.slice none 0 0,.slice none 0 0].toArray 28))=w.alloc (.cells #[.int .i64 0,.slice none 0 0,.slice none 0 0,.slice none 0 0,.int .i64 0,.slice none 0 0,.slice none 0 0,.slice none 0 0] 28) from rfl]
 generalize w.alloc (.cells #[.int .i64 0,.slice none 0 0,.slice none 0 0,.slice none 0 0,.int .i64 0,.slice none 0 0,.slice none 0 0,.slice none 0 0] 28)=W0
 intro HB0 HSZ HZ
 have HE:=Lib.hid (show EyeS W0 W0.heap.size ([],false) (W0.alloc (.cells #[.string ⟨#[]⟩,.bool false] 99)) from ⟨Var.new W0 99 [.string ⟨#[]⟩,.bool false],balloc _ (.refl _ _),Nat.le_refl _,by simp⟩)
 have HZ1:=Lib.hid (HZ.out.grow (balloc (.cells #[.string ⟨#[]⟩,.bool false] 99) (.refl W0.heap.size W0)))
 go_upto_region 2 with fail
 revert HE HZ1
 generalize W0.alloc (.cells #[.string ⟨#[]⟩,.bool false] 99)=Z
 intro HE HZ1
 have hne:w.heap.size≠W0.heap.size:=by have:=HSZ.out;omega
 go_wp2_with fail
 refine (erouter0 HE.out).mono ?_
 rintro e w2 ⟨rfl,h2,o2⟩
 have H3:=Lib.hid (h2.quiet (balloc (.cells #[.int .i64 0,.slice none 0 0,.slice none 0 0,.slice none 0 0,.int .i64 0,.slice none 0 0,.slice none 0 0,.slice none 0 0] 28) (.refl w2.heap.size w2)))
 have Z3:=Lib.hid ((HZ1.out.oth o2 hne).grow (balloc (.cells #[.int .i64 0,.slice none 0 0,.slice none 0 0,.slice none 0 0,.int .i64 0,.slice none 0 0,.slice none 0 0,.slice none 0 0] 28) (.refl w2.heap.size w2)))
 clear h2 o2 HE HZ1 HZ
 go_upto_region 3 with fail
 revert H3 Z3
 generalize w2.alloc (.cells #[.int .i64 0,.slice none 0 0,.slice none 0 0,.slice none 0 0,.int .i64 0,.slice none 0 0,.slice none 0 0,.slice none 0 0] 28)=w3
 intro H3 Z3
 have HB3:=Lib.hid (HB0.out.trans (H3.out.low.mono (by have:=HSZ.out;omega)))
 have XX:=Z3.out.cells
 simp only [VarC,Nat.reduceAdd,Nat.zero_add,and_true] at XX
 obtain ⟨u0,u1,u2,u3,u4,u5,u6,u7⟩:=XX
 have zf:=Z3.out.fz
 have zl:=Z3.out.lt
 go_wp2_with fail
 refine (ewhole_c H3.out).mono ?_
 rintro e w4 ⟨rfl,rfl⟩
 rw [show (!(([],true):List UInt8 × Bool).2&&(([],true):List UInt8 × Bool).1.isEmpty)=false from rfl]
 go_wp2_with fail
 refine bodyPost_ret (v:=.tuple #[.agg #[.int .i64 0,.slice none 0 0,.slice none 0 0,.slice none 0 0,.int .i64 0,.slice none 0 0,.slice none 0 0,.slice none 0 0],.int .i64 2]) (by simp [results,Tryz.results13,go_sem, *]) rfl ?_
 exact ⟨rfl,setsV_below (Nat.le_refl _) [.int .i64 0,.slice none 0 0,.slice none 0 0,.slice none 0 0,.int .i64 0,.slice none 0 0,.slice none 0 0,.slice none 0 0] 0 _ HB3.out⟩
end Go.Proofs.YtcbicdencgjfiaaGreatDoor
/- law20.Cut -/
set_option linter.unusedVariables false
set_option linter.unusedSimpArgs false
namespace Go.Proofs.YtcbicdencgjfiaaGreatDoor
open Go.RowKit Tryst
set_option maxHeartbeats 8000000
set_option maxRecDepth 20000
theorem DOB.lower {base base':Nat} {w:World} {d:DB} (h:DOB base w d) (hb:base'≤base):DOB base' w d:=⟨h.o,fun b o e=>Nat.le_trans hb (h.ga b o e),fun b o e=>Nat.le_trans hb (h.wa b o e),fun p hp=>⟨(h.ps p hp).1.keep (fun g hg _=>⟨rfl,Nat.le_trans hb hg⟩) (Nat.le_refl _),(h.ps p hp).2⟩,h.g6,h.w7⟩
def CtR (o:OPB) (w:World) (e:Ending) (w':World):Prop:=∃ y:OPB,e=.returned y.agg∧DOB w.heap.size w' y.d∧y.kind=o.kind∧y.ok=o.ok∧y.id=o.id∧y.n=o.n∧y.s.size≤2001∧y.d.j=⟨few10 o.d.j.kind,o.d.j.parts,o.d.j.need,o.d.j.window⟩∧Below w.heap.size w w'
theorem cut_c (o:OPB) (w:World) (hD:DArg w o.d) (hs:o.s.size≤9223372036854775807):Calls Tryz.prog 16 #[o.agg] w (CtR o w):=by
 have CF:=Lib.hid (fun W (hb:Below w.heap.size w W)=>fewDJ_c o.d W (hD.grow hb))
 clear hD
 obtain ⟨k,s,d,ok,id,n⟩:=o
 simp only at CF hs
 have HX:=Lib.hid ((Var.new w 48 (OPB.mk k s d ok id n).cells).grow (balloc (.cells #[.int .i64 0,.string ⟨#[]⟩,.string ⟨#[]⟩,.slice none 0 0,.slice none 0 0,.string ⟨#[]⟩,.string ⟨#[]⟩,.int .i64 0,.int .i64 0,.int .i64 0,.bool false,.int .u64 0,.int .i64 0] 48) (.refl _ _)))
 have HZ:=Lib.hid (Var.new (w.alloc (.cells (OPB.mk k s d ok id n).cells.toArray 48)) 48 [.int .i64 0,.string ⟨#[]⟩,.string ⟨#[]⟩,.slice none 0 0,.slice none 0 0,.string ⟨#[]⟩,.string ⟨#[]⟩,.int .i64 0,.int .i64 0,.int .i64 0,.bool false,.int .u64 0,.int .i64 0])
 have HB:=Lib.hid (balloc (.cells #[.int .i64 0,.string ⟨#[]⟩,.string ⟨#[]⟩,.slice none 0 0,.slice none 0 0,.string ⟨#[]⟩,.string ⟨#[]⟩,.int .i64 0,.int .i64 0,.int .i64 0,.bool false,.int .u64 0,.int .i64 0] 48) (balloc (.cells (OPB.mk k s d ok id n).cells.toArray 48) (.refl w.heap.size w)))
 rw [show (w.alloc (.cells (OPB.mk k s d ok id n).cells.toArray 48)).heap.size=w.heap.size+1 by simp] at HZ
 unfold OPB.cells at HX HZ HB
 unfold OPB.agg
 unfold DB.agg at CF
 simp only at CF HX HZ HB ⊢
 go_enter Tryz.func16,Tryz.ntmps16
 go_upto_region 1 with fail
 revert HX HZ HB
 generalize (w.alloc (.cells _ 48)).alloc (.cells _ 48)=Z
 intro HX HZ HB
 have hl1:=HX.out.lt
 have hl2:=HZ.out.lt
 have XX:=HX.out.cells
 simp only [VarC,Nat.reduceAdd,Nat.zero_add,and_true] at XX
 obtain ⟨x0,x1,x2,x3,x4,x5,x6,x7,x8,x9,x10,x11,x12⟩:=XX
 have XX:=HZ.out.cells
 simp only [VarC,Nat.reduceAdd,Nat.zero_add,and_true] at XX
 obtain ⟨u0,u1,u2,u3,u4,u5,u6,u7,u8,u9,u10,u11,u12⟩:=XX
 have xf:=HX.out.fz
 have zf:=HZ.out.fz
 by_cases hlt:2001 < s.size
 ·
  have hle:2001≤s.size:=by omega
  have HX2:Hid (Var (Z.setCell ⟨w.heap.size,1,none⟩ (.string (s.extract 0 2001))) w.heap.size 48 [.int .i64 k,.string (s.extract 0 2001),.string d.name,.slice d.ga d.gl.length d.gc,.slice d.wa d.wl.length d.wc,.string d.key,.string d.j.kind,.int .i64 d.j.parts,.int .i64 d.j.need,.int .i64 d.j.window,.bool ok,.int .u64 id,.int .i64 n]):=Lib.hid (HX.out.set 1 (.string (s.extract 0 2001)))
  have HZ2:=Lib.hid (HZ.out.away (c:=w.heap.size) (o:=1) (by omega) (.string (s.extract 0 2001)))
  have HBB:=Lib.hid (HB.out.setCell (p:=⟨w.heap.size,1,none⟩) (Nat.le_refl _) (.string (s.extract 0 2001)))
  have HSZ:Hid ((s.extract 0 2001).size≤2001):=Lib.hid (by rw [ByteArray.size_extract];omega)
  clear HX HZ HB
  go_wp2_with fail
  refine (CF.out _ HBB.out).mono ?_
  rintro e w2 ⟨d',rfl,hd,hb,hj⟩
  have HD:=Lib.hid hd
  have HJ:=Lib.hid hj
  have hb0:=HZ2.out.lt
  have V2:=Lib.hid (HX2.out.grow hb)
  have Z2:=Lib.hid (HZ2.out.grow hb)
  have B2:=Lib.hid (bstep hb HBB.out)
  have hzz:=hb.size
  clear hd hb hj HX2 HZ2 x0 x1 x2 x3 x4 x5 x6 x7 x8 x9 x10 x11 x12 xf u0 u1 u2 u3 u4 u5 u6 u7 u8 u9 u10 u11 u12 zf
  obtain ⟨nm,ga,gl,gc,wa,wl,wc,ky,⟨kd,dp,dn,dx⟩⟩:=d'
  dsimp only [DB.agg]
  have XX:=V2.out.cells
  simp only [VarC,Nat.reduceAdd,Nat.zero_add,and_true] at XX
  obtain ⟨x0,x1,x2,x3,x4,x5,x6,x7,x8,x9,x10,x11,x12⟩:=XX
  have XX:=Z2.out.cells
  simp only [VarC,Nat.reduceAdd,Nat.zero_add,and_true] at XX
  obtain ⟨u0,u1,u2,u3,u4,u5,u6,u7,u8,u9,u10,u11,u12⟩:=XX
  have xf:=V2.out.fz
  have zf:=Z2.out.fz
  have hl1:=V2.out.lt
  have hl2:=Z2.out.lt
  go_wp2_with fail
  refine bodyPost_ret (v:=(OPB.mk k (s.extract 0 2001) (DB.mk nm ga gl gc wa wl wc ky ⟨kd,dp,dn,dx⟩) ok id n).agg) (by simp [results,Tryz.results16,go_sem,OPB.agg, *]) rfl ?_
  refine ⟨OPB.mk k (s.extract 0 2001) (DB.mk nm ga gl gc wa wl wc ky ⟨kd,dp,dn,dx⟩) ok id n,rfl,?_,rfl,rfl,rfl,rfl,HSZ.out,HJ.out,?_⟩
  ·
   exact DOB.lower (HD.out.keep (w:=setsV (setsV w2 w.heap.size 2 [.string nm,.slice ga gl.length gc,.slice wa wl.length wc,.string ky,.string kd,.int .i64 dp,.int .i64 dn,.int .i64 dx]) (w.heap.size+1) 0 (OPB.mk k (s.extract 0 2001) (DB.mk nm ga gl gc wa wl wc ky ⟨kd,dp,dn,dx⟩) ok id n).cells) (fun j hj=>(setsV_away (by omega) _ _ _).trans (setsV_away (by omega) _ _ _)) (by rw [setsV_size,setsV_size];exact Nat.le_refl _)) (by omega)
  ·
   exact setsV_below (by omega) (OPB.mk k (s.extract 0 2001) (DB.mk nm ga gl gc wa wl wc ky ⟨kd,dp,dn,dx⟩) ok id n).cells 0 _ (setsV_below (Nat.le_refl _) [.string nm,.slice ga gl.length gc,.slice wa wl.length wc,.string ky,.string kd,.int .i64 dp,.int .i64 dn,.int .i64 dx] 2 _ B2.out)
 ·
  have HX2:=HX
  have HZ2:=HZ
  have HBB:=HB
  have HSZ:Hid (s.size≤2001):=Lib.hid (by omega)
  clear HX HZ HB
  go_wp2_with fail
  refine (CF.out _ HBB.out).mono ?_
  rintro e w2 ⟨d',rfl,hd,hb,hj⟩
  have HD:=Lib.hid hd
  have HJ:=Lib.hid hj
  have hb0:=HZ2.out.lt
  have V2:=Lib.hid (HX2.out.grow hb)
  have Z2:=Lib.hid (HZ2.out.grow hb)
  have B2:=Lib.hid (bstep hb HBB.out)
  have hzz:=hb.size
  clear hd hb hj HX2 HZ2 x0 x1 x2 x3 x4 x5 x6 x7 x8 x9 x10 x11 x12 xf u0 u1 u2 u3 u4 u5 u6 u7 u8 u9 u10 u11 u12 zf
  obtain ⟨nm,ga,gl,gc,wa,wl,wc,ky,⟨kd,dp,dn,dx⟩⟩:=d'
  dsimp only [DB.agg]
  have XX:=V2.out.cells
  simp only [VarC,Nat.reduceAdd,Nat.zero_add,and_true] at XX
  obtain ⟨x0,x1,x2,x3,x4,x5,x6,x7,x8,x9,x10,x11,x12⟩:=XX
  have XX:=Z2.out.cells
  simp only [VarC,Nat.reduceAdd,Nat.zero_add,and_true] at XX
  obtain ⟨u0,u1,u2,u3,u4,u5,u6,u7,u8,u9,u10,u11,u12⟩:=XX
  have xf:=V2.out.fz
  have zf:=Z2.out.fz
  have hl1:=V2.out.lt
  have hl2:=Z2.out.lt
  go_wp2_with fail
  refine bodyPost_ret (v:=(OPB.mk k s (DB.mk nm ga gl gc wa wl wc ky ⟨kd,dp,dn,dx⟩) ok id n).agg) (by simp [results,Tryz.results16,go_sem,OPB.agg, *]) rfl ?_
  refine ⟨OPB.mk k s (DB.mk nm ga gl gc wa wl wc ky ⟨kd,dp,dn,dx⟩) ok id n,rfl,?_,rfl,rfl,rfl,rfl,HSZ.out,HJ.out,?_⟩
  ·
   exact DOB.lower (HD.out.keep (w:=setsV (setsV w2 w.heap.size 2 [.string nm,.slice ga gl.length gc,.slice wa wl.length wc,.string ky,.string kd,.int .i64 dp,.int .i64 dn,.int .i64 dx]) (w.heap.size+1) 0 (OPB.mk k s (DB.mk nm ga gl gc wa wl wc ky ⟨kd,dp,dn,dx⟩) ok id n).cells) (fun j hj=>(setsV_away (by omega) _ _ _).trans (setsV_away (by omega) _ _ _)) (by rw [setsV_size,setsV_size];exact Nat.le_refl _)) (by omega)
  ·
   exact setsV_below (by omega) (OPB.mk k s (DB.mk nm ga gl gc wa wl wc ky ⟨kd,dp,dn,dx⟩) ok id n).cells 0 _ (setsV_below (Nat.le_refl _) [.string nm,.slice ga gl.length gc,.slice wa wl.length wc,.string ky,.string kd,.int .i64 dp,.int .i64 dn,.int .i64 dx] 2 _ B2.out)
end Go.Proofs.YtcbicdencgjfiaaGreatDoor
/- law20.awake -/
set_option linter.unusedVariables false
set_option linter.unusedSimpArgs false
namespace Go.Proofs.YtcbicdencgjfiaaGreatDoor
open Go.RowKit Tryst
set_option maxHeartbeats 8000000
set_option maxRecDepth 20000
theorem layR (w:World) (hM:MaxW w) (hT:Tab w):Calls Tryz.prog 17 #[.agg #[.int .i64 10,.string ⟨#[]⟩,.string ⟨#[]⟩,.slice none 0 0,.slice none 0 0,.string ⟨#[]⟩,.string ⟨#[]⟩,.int .i64 0,.int .i64 0,.int .i64 0,.bool false,.int .u64 0,.int .i64 0]] w fun e w'=>e=.returned (.tuple #[.string ⟨#[20,0,0,0,0]⟩,.int .i64 0])∧Below w.heap.size w w':=by
 have h:=layop_c ⟨10,⟨#[]⟩,.zero,false,0,0⟩ w hM hT (DO.zero w) ⟨by decide,by decide,by decide,by decide,by decide,by decide,by decide⟩ ⟨by decide,by decide,by decide,by decide,by decide⟩ (by decide)
 have e1:mayO ⟨10,⟨#[]⟩,.zero,false,0,0⟩=true:=by decide
 have e2:opL (OPB.p ⟨10,⟨#[]⟩,.zero,false,0,0⟩)=[20,0,0,0,0]:=by decide
 rw [e1,e2] at h
 exact h
theorem awake20_c (w:World) (hM:MaxW w) (hT:Tab w):Calls Tryz.prog 12 #[] w fun e w'=>e=.returned (.bool true)∧Below w.heap.size w w':=by
 have HM:=Lib.hid hM
 have HT:=Lib.hid hT
 clear hM hT
 go_enter Tryz.func12,Tryz.ntmps12
 go_wp2_with fail
 refine (lay0 _).mono ?_
 rintro e w1 ⟨rfl,b1⟩
 have B1:=Lib.hid b1
 clear b1
 go_wp2_with fail
 refine (layR _ (HM.out.grow B1.out) (HT.out.grow B1.out)).mono ?_
 rintro e w2 ⟨rfl,b2⟩
 have B2:=Lib.hid (bstep b2 B1.out)
 clear b2 B1
 go_wp2_with fail
 refine (take0 _).mono ?_
 rintro e w3 ⟨rfl,b3⟩
 have B3:=Lib.hid (balloc (.cells #[.int .i64 0,.slice none 0 0,.slice none 0 0,.slice none 0 0,.int .i64 0,.slice none 0 0,.slice none 0 0,.slice none 0 0] 28) (bstep b3 B2.out))
 clear b3 B2
 go_wp2_with fail
 go_ret
 exact ⟨rfl,B3.out⟩
end Go.Proofs.YtcbicdencgjfiaaGreatDoor
