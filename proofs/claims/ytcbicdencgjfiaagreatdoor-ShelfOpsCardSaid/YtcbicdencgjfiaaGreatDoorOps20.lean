/- law20.ShelfOps -/
import Derived.Test.YtcbicdencgjfiaaGreatDoorAw20
import Derived.Test.YtcbicdencgjfiaaGreatDoorReads20
import Derived.Test.YtcbicdencgjfiaaGreatDoorShS
set_option linter.unusedVariables false
set_option linter.unusedSimpArgs false
namespace Go.Proofs.YtcbicdencgjfiaaGreatDoor
open Go.RowKit Tryst
set_option maxHeartbeats 8000000
set_option maxRecDepth 20000
theorem _root_.Tryst.Var.awayS {w:World} {g g':Nat} {T:TypeId} {cs:List Value} (h:Var w g T cs) (hg:g≠g') (us:List Value) (i:Nat):Var (setsV w g' i us) g T cs:=(setsV_away hg us i w).trans h
theorem DOB.sets {B g:Nat} {w:World} {d:DB} (h:DOB B w d) (hg:g < B) (us:List Value) (i:Nat):DOB B (setsV w g i us) d:=h.keep (fun b hb=>setsV_away (by omega) us i w) (by rw [setsV_size];exact Nat.le_refl _)
structure CE (o y:OPB):Prop where
 k:y.kind=o.kind
 ok:y.ok=o.ok
 id:y.id=o.id
 n:y.n=o.n
 s:y.s.size≤2001
 j:y.d.j=⟨few10 o.d.j.kind,o.d.j.parts,o.d.j.need,o.d.j.window⟩
def RG (B g0 g1:Nat) (o p:OPB) (w wx:World):Prop:=∃ y1 y2:OPB,Var wx g0 48 y1.cells∧Var wx g1 48 y2.cells∧(DOB B wx y1.d∧CE o y1)∧(DOB B wx y2.d∧CE p y2)∧Below w.heap.size w wx
theorem cutE_c (o:OPB) (w:World) (hD:DArg w o.d) (hs:o.s.size≤9223372036854775807):Calls Tryz.prog 16 #[o.agg] w fun e w'=>∃ y:OPB,e=.returned y.agg∧DOB w.heap.size w' y.d∧CE o y∧Below w.heap.size w w':=
 (cut_c o w hD hs).mono fun e w' ⟨y,h1,h2,h3,h4,h5,h6,h7,h8,h9⟩=>⟨y,h1,h2,⟨h3,h4,h5,h6,h7,h8⟩,h9⟩
structure JR (j:JB):Prop where
 p0:-9223372036854775808≤j.parts
 p1:j.parts≤9223372036854775807
 n0:-9223372036854775808≤j.need
 n1:j.need≤9223372036854775807
 w0:-9223372036854775808≤j.window
 w1:j.window≤9223372036854775807
theorem CE.oin {o y:OPB} (h:CE o y) (ho:OPIn o):OPIn y:=⟨by rw [h.k];exact ho.k0,by rw [h.k];exact ho.k1,by rw [h.n];exact ho.n0,by rw [h.n];exact ho.n1,by rw [h.id];exact ho.i⟩
theorem CE.jin {o y:OPB} (h:CE o y) (ho:JR o.d.j):JIn y.d.j:=by
 have e:=h.j
 refine ⟨?_,by rw [e];exact ho.p0,by rw [e];exact ho.p1,by rw [e];exact ho.n0,by rw [e];exact ho.n1,by rw [e];exact ho.w0,by rw [e];exact ho.w1⟩
 rw [e]
 unfold few10
 simp only
 split
 ·
  rw [ByteArray.size_extract];omega
 ·
  omega
theorem opsLaw_c (o p:OPB) (w:World) (hM0:MaxW w) (hT:Tab w) (hDo:DArg w o.d) (hDp:DArg w p.d) (hso:o.s.size≤9223372036854775807) (hsp:p.s.size≤9223372036854775807) (hOo:OPIn o) (hOp:OPIn p) (hJo:JR o.d.j) :
  Calls Tryz.prog 8 #[o.agg,p.agg] w fun e w'=>e=.returned (.bool true)∧Below w.heap.size w w':=by
 have HAW:=Lib.hid (fun W (hb:Below w.heap.size w W)=>awake20_c W (hM0.grow hb) (hT.grow hb))
 have HM:=Lib.hid (fun W (hb:Below w.heap.size w W)=>hM0.grow hb)
 have CX:=Lib.hid (fun W (hb:Below w.heap.size w W)=>cutE_c o W (hDo.grow hb) hso)
 have CY:=Lib.hid (fun W (hb:Below w.heap.size w W)=>cutE_c p W (hDp.grow hb) hsp)
 have HX:=Lib.hid ((Var.new w 48 o.cells).grow (balloc (.cells p.cells.toArray 48) (.refl _ _)))
 have HY:=Lib.hid (Var.new (w.alloc (.cells o.cells.toArray 48)) 48 p.cells)
 have HB:=Lib.hid (balloc (.cells p.cells.toArray 48) (balloc (.cells o.cells.toArray 48) (.refl w.heap.size w)))
 rw [show (w.alloc (.cells o.cells.toArray 48)).heap.size=w.heap.size+1 by simp] at HY
 clear hDo hDp hso hsp
 have CX2:=Lib.hid CX.out
 have CY2:=Lib.hid CY.out
 unfold OPB.cells at HX HY HB
 unfold OPB.agg
 rw [show o.agg=.agg #[.int .i64 o.kind,.string o.s,.string o.d.name,.slice o.d.ga o.d.gl.length o.d.gc,.slice o.d.wa o.d.wl.length o.d.wc,.string o.d.key,.string o.d.j.kind,.int .i64 o.d.j.parts,.int .i64 o.d.j.need,.int .i64 o.d.j.window,.bool o.ok,.int .u64 o.id,.int .i64 o.n] from rfl] at CX
 rw [show p.agg=.agg #[.int .i64 p.kind,.string p.s,.string p.d.name,.slice p.d.ga p.d.gl.length p.d.gc,.slice p.d.wa p.d.wl.length p.d.wc,.string p.d.key,.string p.d.j.kind,.int .i64 p.d.j.parts,.int .i64 p.d.j.need,.int .i64 p.d.j.window,.bool p.ok,.int .u64 p.id,.int .i64 p.n] from rfl] at CY
 clear CX2 CY2
 go_enter Tryz.func8,Tryz.ntmps8
 go_upto_region 1 with fail
 revert HX HY HB
 generalize (w.alloc (.cells _ 48)).alloc (.cells _ 48)=Z
 intro HX HY HB
 have XX:=HX.out.cells
 simp only [VarC,Nat.reduceAdd,Nat.zero_add,and_true] at XX
 obtain ⟨x0,x1,x2,x3,x4,x5,x6,x7,x8,x9,x10,x11,x12⟩:=XX
 have XX:=HY.out.cells
 simp only [VarC,Nat.reduceAdd,Nat.zero_add,and_true] at XX
 obtain ⟨y0,y1,y2,y3,y4,y5,y6,y7,y8,y9,y10,y11,y12⟩:=XX
 have xf:=HX.out.fz
 have yf:=HY.out.fz
 have hl0:=HX.out.lt
 have hl1:=HY.out.lt
 go_cut [] from 9 to 12 (fun wx=>RG Z.heap.size w.heap.size (w.heap.size+1) o p w wx)
 case first=>
  have V0:=Lib.hid (show Var Z.drew w.heap.size 48 _ from HX.out)
  have V1:=Lib.hid (show Var Z.drew (w.heap.size+1) 48 _ from HY.out)
  have HBL:=Lib.hid (show Below w.heap.size w Z.drew from bdrew HB.out)
  have hz:Z.heap.size≤Z.heap.size:=Nat.le_refl _
  clear HX HY HB
  go_region_with (first | (go_at_call 16;(with_reducible refine (CX.out _ ?_).mono ?_);(first | exact HBL.out | exact setsV_below (by omega) q2.cells 0 _ HBL.out);rintro e wA ⟨q1,rfl,hd,ce,hb⟩;have hzn:=hb.size;(first | have V0:=Lib.hid (V0.out.grow hb) | have V0:=Lib.hid ((V0.out.awayS (by omega) q2.cells 0).grow hb));(first | have V1:=Lib.hid (V1.out.grow hb) | have V1:=Lib.hid ((V1.out.put q2.cells rfl).grow hb));have HDo:=Lib.hid (DOB.lower (base':=Z.heap.size) hd (by first | exact hz | (simp;omega)));have HCo:=Lib.hid ce;(try (first | have HDp:=Lib.hid (HDp.out.grow hb) | have HDp:=Lib.hid ((HDp.out.sets (by omega) q2.cells 0).grow hb)));(first | have HBL:=Lib.hid (bstep hb HBL.out) | have HBL:=Lib.hid (bstep hb (setsV_below (by omega) q2.cells 0 _ HBL.out)));have hz:Z.heap.size≤wA.heap.size:=(by first | exact Nat.le_trans hz hzn | (simp at hzn;omega));have XX:=V0.out.cells;(simp only [OPB.cells,VarC,Nat.reduceAdd,Nat.zero_add,and_true] at XX);obtain ⟨x0,x1,x2,x3,x4,x5,x6,x7,x8,x9,x10,x11,x12⟩:=XX;have YY:=V1.out.cells;(simp only [OPB.cells,VarC,Nat.reduceAdd,Nat.zero_add,and_true] at YY);obtain ⟨y0,y1,y2,y3,y4,y5,y6,y7,y8,y9,y10,y11,y12⟩:=YY;have xf:=V0.out.fz;have yf:=V1.out.fz;have hl0:=V0.out.lt;have hl1:=V1.out.lt;clear hd ce hb hzn;unfold OPB.agg) | (go_at_call 16;(with_reducible refine (CY.out _ ?_).mono ?_);(first | exact HBL.out | exact setsV_below (by omega) q1.cells 0 _ HBL.out);rintro e wB ⟨q2,rfl,hd,ce,hb⟩;have hzn:=hb.size;(first | have V1:=Lib.hid (V1.out.grow hb) | have V1:=Lib.hid ((V1.out.awayS (by omega) q1.cells 0).grow hb));(first | have V0:=Lib.hid (V0.out.grow hb) | have V0:=Lib.hid ((V0.out.put q1.cells rfl).grow hb));have HDp:=Lib.hid (DOB.lower (base':=Z.heap.size) hd (by first | exact hz | (simp;omega)));have HCp:=Lib.hid ce;(try (first | have HDo:=Lib.hid (HDo.out.grow hb) | have HDo:=Lib.hid ((HDo.out.sets (by omega) q1.cells 0).grow hb)));(first | have HBL:=Lib.hid (bstep hb HBL.out) | have HBL:=Lib.hid (bstep hb (setsV_below (by omega) q1.cells 0 _ HBL.out)));have hz:Z.heap.size≤wB.heap.size:=(by first | exact Nat.le_trans hz hzn | (simp at hzn;omega));have XX:=V0.out.cells;(simp only [OPB.cells,VarC,Nat.reduceAdd,Nat.zero_add,and_true] at XX);obtain ⟨x0,x1,x2,x3,x4,x5,x6,x7,x8,x9,x10,x11,x12⟩:=XX;have YY:=V1.out.cells;(simp only [OPB.cells,VarC,Nat.reduceAdd,Nat.zero_add,and_true] at YY);obtain ⟨y0,y1,y2,y3,y4,y5,y6,y7,y8,y9,y10,y11,y12⟩:=YY;have xf:=V0.out.fz;have yf:=V1.out.fz;have hl0:=V0.out.lt;have hl1:=V1.out.lt;clear hd ce hb hzn;unfold OPB.agg))
  all_goals
   go_wp2_with fail
   go_meet
   first
    | exact ⟨q1,q2,(V0.out.put q1.cells rfl).awayS (by omega) q2.cells 0,(V1.out.awayS (by omega) q1.cells 0).put q2.cells rfl,⟨(HDo.out.sets (by omega) q1.cells 0).sets (by omega) q2.cells 0,HCo.out⟩,⟨(HDp.out.sets (by omega) q1.cells 0).sets (by omega) q2.cells 0,HCp.out⟩,setsV_below (by omega) q2.cells 0 _ (setsV_below (by omega) q1.cells 0 _ HBL.out)⟩
    | exact ⟨q1,q2,(V0.out.awayS (by omega) q2.cells 0).put q1.cells rfl,(V1.out.put q2.cells rfl).awayS (by omega) q1.cells 0,⟨(HDo.out.sets (by omega) q2.cells 0).sets (by omega) q1.cells 0,HCo.out⟩,⟨(HDp.out.sets (by omega) q2.cells 0).sets (by omega) q1.cells 0,HCp.out⟩,setsV_below (by omega) q1.cells 0 _ (setsV_below (by omega) q2.cells 0 _ HBL.out)⟩
 case rest=>
  obtain ⟨q1,q2,V0,V1,⟨D1,E1⟩,⟨D2,E2⟩,HBc⟩:=hcut
  have O1:=E1.oin hOo
  have J1:=E1.jin hJo
  have S1:=E1.s
  have MW:=hM0.grow HBc
  have TW:=hT.grow HBc
  have KL:=Lib.hid (layop_c q1 wc MW TW D1.o J1 O1 (by omega))
  have KM:=Lib.hid (fun W (hb:Below wc.heap.size wc W)=>omay20_c q1 W (MW.grow hb) (D1.o.grow hb) (by omega))
  have KR:=Lib.hid (fun W (hb:Below wc.heap.size wc W)=>romay20_c q1 W (MW.grow hb) (D1.o.grow hb) (by omega))
  have KS:=Lib.hid (fun W (hb:Below wc.heap.size wc W)=>osame20_c q1 q2 W (D1.o.grow hb) (D2.o.grow hb))
  have KT:=Lib.hid (fun W (hb:Below wc.heap.size wc W)=>rosame20_c q1 q2 W (D1.o.grow hb) (D2.o.grow hb))
  have KF:=Lib.hid (fun (hm:mayO q1=true) W (hb:Below wc.heap.size wc W)=>takeop_c ⟨(opL q1.p).toArray⟩ (by rw [mk_size];have:=opL_le (fun p hp=>po_fits p (D1.o.wR.po p hp).1) hm;omega) W (MW.grow hb))
  have KO:=Lib.hid (fun (hm:mayO q1=true)=>And.intro (takeO_lay (ofits D1.o J1 O1 (by omega) hm) (by rw [mayOp_p];exact hm)) (opL_le (fun p hp=>po_fits p (D1.o.wR.po p hp).1) hm))
  have KLR:=Lib.hid (fun (hm:mayO q1=true) W (hb:Below wc.heap.size wc W)=>rlayop_c q1 W (D1.o.grow hb) J1 O1 (by omega) (fun hk=>mayD_w ((mayO_s hm).2 hk)) (fun hk=>by have:=defL_le (fun p hp=>po_fits p (D1.o.wR.po p hp).1) ((mayO_s hm).2 hk);omega))
  have DD1:=Lib.hid D1.o
  have AW:=Lib.hid (fun W (hb:Below wc.heap.size wc W)=>HAW.out W (bstep hb HBc))
  have U0:=Lib.hid V0
  have U1:=Lib.hid V1
  have HBC:=Lib.hid HBc
  obtain ⟨m,hm⟩:∃ m,mayO q1=m:=⟨_,rfl⟩
  obtain ⟨sm,hsm⟩:∃ m,sameO q1 q2=m:=⟨_,rfl⟩
  rw [hm] at KL KM KR KF KO KLR
  rw [hsm] at KS KT
  clear hsm V0 V1 HBc D1 E1 D2 E2 O1 J1 S1 MW TW hM0 hT hOo hOp hJo HM HAW CX CY HX HY HB xf yf hl0 hl1 x0 x1 x2 x3 x4 x5 x6 x7 x8 x9 x10 x11 x12 y0 y1 y2 y3 y4 y5 y6 y7 y8 y9 y10 y11 y12
  rw [show q1.agg=.agg #[.int .i64 q1.kind,.string q1.s,.string q1.d.name,.slice q1.d.ga q1.d.gl.length q1.d.gc,.slice q1.d.wa q1.d.wl.length q1.d.wc,.string q1.d.key,.string q1.d.j.kind,.int .i64 q1.d.j.parts,.int .i64 q1.d.j.need,.int .i64 q1.d.j.window,.bool q1.ok,.int .u64 q1.id,.int .i64 q1.n] from rfl] at KL KM KR KLR KS KT
  rw [show q2.agg=.agg #[.int .i64 q2.kind,.string q2.s,.string q2.d.name,.slice q2.d.ga q2.d.gl.length q2.d.gc,.slice q2.d.wa q2.d.wl.length q2.d.wc,.string q2.d.key,.string q2.d.j.kind,.int .i64 q2.d.j.parts,.int .i64 q2.d.j.need,.int .i64 q2.d.j.window,.bool q2.ok,.int .u64 q2.id,.int .i64 q2.n] from rfl] at KS KT
  have X0:Hid (Var wc w.heap.size 48 [.int .i64 q1.kind,.string q1.s,.string q1.d.name,.slice q1.d.ga q1.d.gl.length q1.d.gc,.slice q1.d.wa q1.d.wl.length q1.d.wc,.string q1.d.key,.string q1.d.j.kind,.int .i64 q1.d.j.parts,.int .i64 q1.d.j.need,.int .i64 q1.d.j.window,.bool q1.ok,.int .u64 q1.id,.int .i64 q1.n]):=U0
  have X1:Hid (Var wc (w.heap.size+1) 48 [.int .i64 q2.kind,.string q2.s,.string q2.d.name,.slice q2.d.ga q2.d.gl.length q2.d.gc,.slice q2.d.wa q2.d.wl.length q2.d.wc,.string q2.d.key,.string q2.d.j.kind,.int .i64 q2.d.j.parts,.int .i64 q2.d.j.need,.int .i64 q2.d.j.window,.bool q2.ok,.int .u64 q2.id,.int .i64 q2.n]):=U1
  clear U0 U1
  have XX:=X0.out.cells
  simp only [VarC,Nat.reduceAdd,Nat.zero_add,and_true] at XX
  obtain ⟨x0,x1,x2,x3,x4,x5,x6,x7,x8,x9,x10,x11,x12⟩:=XX
  go_wp2_with fail
  refine KL.out.mono ?_
  rintro e w1 ⟨rfl,hb1⟩
  have B1:=Lib.hid hb1
  have X01:=Lib.hid (X0.out.grow hb1)
  have X11:=Lib.hid (X1.out.grow hb1)
  have HB1:=Lib.hid (bstep hb1 HBC.out)
  clear hb1 KL X0 X1 HBC x0 x1 x2 x3 x4 x5 x6 x7 x8 x9 x10 x11 x12
  have XX:=X01.out.cells
  simp only [VarC,Nat.reduceAdd,Nat.zero_add,and_true] at XX
  obtain ⟨x0,x1,x2,x3,x4,x5,x6,x7,x8,x9,x10,x11,x12⟩:=XX
  have XX:=X11.out.cells
  simp only [VarC,Nat.reduceAdd,Nat.zero_add,and_true] at XX
  obtain ⟨y0,y1,y2,y3,y4,y5,y6,y7,y8,y9,y10,y11,y12⟩:=XX
  have hl0:=X01.out.lt
  have hl1:=X11.out.lt
  generalize w.heap.size+1=g1 at X11 hl1 y0 y1 y2 y3 y4 y5 y6 y7 y8 y9 y10 y11 y12 ⊢
  generalize w.heap.size=g0 at X01 hl0 x0 x1 x2 x3 x4 x5 x6 x7 x8 x9 x10 x11 x12 ⊢
  go_upto_region 3 with fail
  refine Tryst2.wp_region_grows [.is (.agg #[.int .i64 q1.kind,.string q1.s,.string q1.d.name,.slice q1.d.ga q1.d.gl.length q1.d.gc,.slice q1.d.wa q1.d.wl.length q1.d.wc,.string q1.d.key,.string q1.d.j.kind,.int .i64 q1.d.j.parts,.int .i64 q1.d.j.need,.int .i64 q1.d.j.window,.bool q1.ok,.int .u64 q1.id,.int .i64 q1.n]),.is (.bool m),.is (.agg #[.int .i64 q1.kind,.string q1.s,.string q1.d.name,.slice q1.d.ga q1.d.gl.length q1.d.gc,.slice q1.d.wa q1.d.wl.length q1.d.wc,.string q1.d.key,.string q1.d.j.kind,.int .i64 q1.d.j.parts,.int .i64 q1.d.j.need,.int .i64 q1.d.j.window,.bool q1.ok,.int .u64 q1.id,.int .i64 q1.n]),.is (.bool m),.is (.bool false),.is (.bool false),.is (.agg #[.int .i64 q1.kind,.string q1.s,.string q1.d.name,.slice q1.d.ga q1.d.gl.length q1.d.gc,.slice q1.d.wa q1.d.wl.length q1.d.wc,.string q1.d.key,.string q1.d.j.kind,.int .i64 q1.d.j.parts,.int .i64 q1.d.j.need,.int .i64 q1.d.j.window,.bool q1.ok,.int .u64 q1.id,.int .i64 q1.n]),.is (.agg #[.int .i64 q2.kind,.string q2.s,.string q2.d.name,.slice q2.d.ga q2.d.gl.length q2.d.gc,.slice q2.d.wa q2.d.wl.length q2.d.wc,.string q2.d.key,.string q2.d.j.kind,.int .i64 q2.d.j.parts,.int .i64 q2.d.j.need,.int .i64 q2.d.j.window,.bool q2.ok,.int .u64 q2.id,.int .i64 q2.n]),.is (.bool sm),.is (.agg #[.int .i64 q1.kind,.string q1.s,.string q1.d.name,.slice q1.d.ga q1.d.gl.length q1.d.gc,.slice q1.d.wa q1.d.wl.length q1.d.wc,.string q1.d.key,.string q1.d.j.kind,.int .i64 q1.d.j.parts,.int .i64 q1.d.j.need,.int .i64 q1.d.j.window,.bool q1.ok,.int .u64 q1.id,.int .i64 q1.n]),.is (.agg #[.int .i64 q2.kind,.string q2.s,.string q2.d.name,.slice q2.d.ga q2.d.gl.length q2.d.gc,.slice q2.d.wa q2.d.wl.length q2.d.wc,.string q2.d.key,.string q2.d.j.kind,.int .i64 q2.d.j.parts,.int .i64 q2.d.j.need,.int .i64 q2.d.j.window,.bool q2.ok,.int .u64 q2.id,.int .i64 q2.n]),.is (.bool sm),.is (.bool false),.is (.bool false)] (by kernel_rfl) (by kernel_rfl) ?obl ?fin
  case obl=>
   simp only [YA,YL,YO,YR,Op.operands,Call.operands]
   repeat' apply And.intro
   any_goals trivial
   all_goals (intro tv w' hg hold hd;(try simp at hold);obtain ⟨hcg,hfg,hsg⟩:=YG hg)
   all_goals first | (go_simp;done) | (go_simp;rw [if_neg (by omega)];exact ⟨.refl _,rfl⟩) | (obtain ⟨⟨g,hvg,hgg,hcell⟩,_⟩:=hd;have hcell0:=hcell 0 (by decide);simp at hcell0;go_simp;done) | (go_simp;(first | (with_reducible refine (KM.out _ ?_).mono ?_) | (with_reducible refine (KR.out _ ?_).mono ?_) | (with_reducible refine (KS.out _ ?_).mono ?_) | (with_reducible refine (KT.out _ ?_).mono ?_));(exact bstep (Tryst2.Grow.below hg (.refl _ _)) B1.out);rintro e w5 ⟨rfl,hb5⟩;exact ⟨hb5,rfl⟩)
  case fin=>
   intro tv w' hg hR
   simp only [YF,YL,YR] at hR
   obtain ⟨hcg,hfg,hsg⟩:=YG hg
   simp only [YP,YL,Act.put,hR]
   have X02:=Lib.hid (X01.out.grow (Tryst2.Grow.below hg (.refl _ _)))
   have B2:=Lib.hid (bstep (Tryst2.Grow.below hg (.refl _ _)) B1.out)
   have HB2:=Lib.hid (bstep (Tryst2.Grow.below hg (.refl _ _)) HB1.out)
   clear hg hR hcg hfg hsg x0 x1 x2 x3 x4 x5 x6 x7 x8 x9 x10 x11 x12 y0 y1 y2 y3 y4 y5 y6 y7 y8 y9 y10 y11 y12 hl0 hl1 X01 X11 B1 HB1 KS KM
   have XX:=X02.out.cells
   simp only [VarC,Nat.reduceAdd,Nat.zero_add,and_true] at XX
   obtain ⟨x0,x1,x2,x3,x4,x5,x6,x7,x8,x9,x10,x11,x12⟩:=XX
   cases m with
   | false=>
    rw [if_neg (show ¬ (false=true) by decide),if_neg (show ¬ (false=true) by decide)]
    clear KLR KO KF KT
    go_wp2_with fail
    refine (KR.out _ B2.out).mono ?_
    rintro e w2 ⟨rfl,b3⟩
    have B3:=Lib.hid (bstep b3 B2.out)
    have HB3:=Lib.hid (bstep b3 HB2.out)
    clear b3 x0 x1 x2 x3 x4 x5 x6 x7 x8 x9 x10 x11 x12
    go_wp2_with fail
    refine (AW.out _ B3.out).mono ?_
    rintro e w3 ⟨rfl,b4⟩
    have HB4:=Lib.hid (bstep b4 HB3.out)
    clear b4
    go_wp2_with fail
    go_ret
    exact ⟨rfl,HB4.out⟩
   | true=>
    rw [if_pos rfl,if_pos rfl]
    obtain ⟨ht,hle⟩:=KO.out rfl
    have KF2:=Lib.hid (KF.out rfl)
    have KLR2:=Lib.hid (KLR.out rfl)
    have hsz:(⟨(opL q1.p).toArray⟩:ByteArray).size≤90000:=by rw [mk_size];exact hle
    have HTK:=Lib.hid ht
    have HLE:=Lib.hid hle
    have RS:=Lib.hid (fun (y:OPB) W (hb:Below wc.heap.size wc W) (hy:DO W y.d)=>rosame20_c y q1 W hy (DD1.out.grow hb))
    rw [show q1.agg=.agg #[.int .i64 q1.kind,.string q1.s,.string q1.d.name,.slice q1.d.ga q1.d.gl.length q1.d.gc,.slice q1.d.wa q1.d.wl.length q1.d.wc,.string q1.d.key,.string q1.d.j.kind,.int .i64 q1.d.j.parts,.int .i64 q1.d.j.need,.int .i64 q1.d.j.window,.bool q1.ok,.int .u64 q1.id,.int .i64 q1.n] from rfl] at RS
    have SM:=Lib.hid (fun (y:OPB) (h:y.p=q1.p)=>(sameO_p y q1).2 h)
    clear ht hle KO KT hm KF KLR
    go_wp2_with fail
    refine (KR.out _ B2.out).mono ?_
    rintro e w2 ⟨rfl,b3⟩
    have B3:=Lib.hid (bstep b3 B2.out)
    have HB3:=Lib.hid (bstep b3 HB2.out)
    have X03:=Lib.hid (X02.out.grow b3)
    clear b3 x0 x1 x2 x3 x4 x5 x6 x7 x8 x9 x10 x11 x12 X02 B2 HB2
    have XX:=X03.out.cells
    simp only [VarC,Nat.reduceAdd,Nat.zero_add,and_true] at XX
    obtain ⟨x0,x1,x2,x3,x4,x5,x6,x7,x8,x9,x10,x11,x12⟩:=XX
    go_wp2_with fail
    refine (KF2.out _ B3.out).mono ?_
    rintro e w3 ⟨y,rfl,hy,hm,hb⟩
    rcases hy with ⟨hn,rfl⟩ | hy
    ·
     rw [HTK.out] at hn
     cases hn
    ·
     rw [HTK.out] at hy
     have hyp:y.p=q1.p:=(Option.some.inj hy).symm
     have hf:y.p.Fits:=takeO_fits (l:=opL q1.p) (by rw [hyp];exact HTK.out)
     obtain ⟨p1,_,_,_⟩:=opIn hm hf rfl (by rw [hyp];have:=HLE.out;omega)
     have RS2:=Lib.hid (fun W (hb':Below w3.heap.size w3 W) (hb:Below wc.heap.size wc W)=>RS.out y W hb (p1.grow hb'))
     rw [SM.out y hyp] at RS2
     have VY:=Lib.hid (Var.new w3 48 y.cells)
     have BY:=Lib.hid (balloc (.cells y.cells.toArray 48) (.refl w3.heap.size w3))
     have B4:=Lib.hid (bstep hb B3.out)
     have HB4:=Lib.hid (bstep hb HB3.out)
     have X04:=Lib.hid (X03.out.grow hb)
     have B5:=Lib.hid (balloc (.cells y.cells.toArray 48) B4.out)
     have HB5:=Lib.hid (balloc (.cells y.cells.toArray 48) HB4.out)
     have X05:=Lib.hid (X04.out.grow (balloc (.cells y.cells.toArray 48) (.refl w3.heap.size w3)))
     rw [HTK.out]
     clear hy hyp hf p1 hm hb RS SM B4 HB4 X04 X03 B3 HB3 KF2 KR x0 x1 x2 x3 x4 x5 x6 x7 x8 x9 x10 x11 x12
     obtain ⟨k,s,dd,ok,id,n⟩:=y
     unfold OPB.cells at VY BY B5 HB5 X05
     unfold OPB.agg at RS2 ⊢
     simp only at RS2 VY BY B5 HB5 X05 ⊢
     go_upto_region 8 with fail
     revert VY BY B5 HB5 X05
     generalize w3.alloc (.cells _ 48)=w4
     intro VY BY B5 HB5 X05
     have XX:=X05.out.cells
     simp only [VarC,Nat.reduceAdd,Nat.zero_add,and_true] at XX
     obtain ⟨x0,x1,x2,x3,x4,x5,x6,x7,x8,x9,x10,x11,x12⟩:=XX
     go_wp2_with fail
     refine (KLR2.out _ B5.out).mono ?_
     rintro e w5 ⟨rfl,b6⟩
     have VY6:=Lib.hid (VY.out.grow b6)
     have BY6:=Lib.hid (bstep b6 BY.out)
     have B6:=Lib.hid (bstep b6 B5.out)
     have HB6:=Lib.hid (bstep b6 HB5.out)
     have X06:=Lib.hid (X05.out.grow b6)
     clear b6 x0 x1 x2 x3 x4 x5 x6 x7 x8 x9 x10 x11 x12 VY BY B5 HB5 X05 KLR2
     have XX:=X06.out.cells
     simp only [VarC,Nat.reduceAdd,Nat.zero_add,and_true] at XX
     obtain ⟨x0,x1,x2,x3,x4,x5,x6,x7,x8,x9,x10,x11,x12⟩:=XX
     have XX:=VY6.out.cells
     simp only [VarC,Nat.reduceAdd,Nat.zero_add,and_true] at XX
     obtain ⟨y0,y1,y2,y3,y4,y5,y6,y7,y8,y9,y10,y11,y12⟩:=XX
     go_wp2_with fail
     refine (RS2.out _ BY6.out B6.out).mono ?_
     rintro e w6 ⟨rfl,b7⟩
     have B7:=Lib.hid (bstep b7 B6.out)
     have HB7:=Lib.hid (bstep b7 HB6.out)
     clear b7 x0 x1 x2 x3 x4 x5 x6 x7 x8 x9 x10 x11 x12 y0 y1 y2 y3 y4 y5 y6 y7 y8 y9 y10 y11 y12
     go_wp2_with fail
     refine (AW.out _ B7.out).mono ?_
     rintro e w7 ⟨rfl,b8⟩
     have HB8:=Lib.hid (bstep b8 HB7.out)
     clear b8
     go_wp2_with fail
     go_ret
     exact ⟨rfl,HB8.out⟩
end Go.Proofs.YtcbicdencgjfiaaGreatDoor
