/- shelf.pen: def, op -/
import Derived.Test.YtcbicdencgjfiaaGreatDoorPenL
import Derived.Test.YtcbicdencgjfiaaGreatDoorROffA
import Derived.Test.YtcbicdencgjfiaaGreatDoorRShD
import Derived.Test.YtcbicdencgjfiaaGreatDoorSamE14
set_option linter.unusedVariables false
set_option linter.unusedSimpArgs false
namespace Go.Proofs.YtcbicdencgjfiaaGreatDoor
open Go.RowKit Tryst
set_option maxHeartbeats 2000000
set_option maxRecDepth 20000
theorem PenS.lt {W0 Y w:World} {b:Nat} {l:List UInt8} (h:PenS W0 Y b l w):b < w.heap.size:=(BldT.lt h.bld).2
theorem DX.kept {W0 Y w:World} {b g:Nat} {l:List UInt8} {nm ky kd:ByteArray} {G U:Value} {p n x:Int} (h:PenS W0 Y b l w) (hx:DX Y g nm G U ky kd p n x) (hg:g≠b):DX w g nm G U ky kd p n x:=Kept.box h.kept hx hg (by decide)
theorem pdef_c (d:DB) {W0 Y w:World} {b:Nat} {o:List UInt8} (h:PenS W0 Y b o w) (hM:MaxW W0) (hT:Tab W0) (hD:DO W0 d) (hj:JIn d.j) (hm:∀ p∈d.wl,mayP p.pr=true) (hl:o.length+(defL d.dp).length≤800000000) :
  Calls Tryz.prog 112 #[.pointer (some ⟨b,0,none⟩),d.agg] w (PenR W0 Y b (o++defL d.dp)):=by
 have HG:=Lib.hid (fun (Z wx:World) (ox:List UInt8) (hx:PenS W0 Z b ox wx) hlx=>plistS_c d.ga d.gc d.gl hx hD.gS hlx (Nat.le_trans hD.hg (by decide)))
 have HU:=Lib.hid (fun (Z wx:World) (ox:List UInt8) (hx:PenS W0 Z b ox wx) hlx=>plistP_c d.wa d.wc d.wl hx hM hT hD.wR hm (fun p hp=>po_fits p (hD.wR.po p hp).1) hlx (Nat.le_trans hD.hw (by decide)))
 have H0:=Lib.hid h
 have hbw:=h.lt
 obtain ⟨j0,j1,j2,j3,j4,j5,j6⟩:=hj
 clear h hM hT hD hm
 obtain ⟨nm,ga,gl,gc,wa,wl,wc,ky,⟨kd,p,n,x⟩⟩:=d
 unfold DB.agg
 unfold DB.dp defL at hl ⊢
 simp only [List.length_append] at HG HU hl j0 j1 j2 j3 j4 j5 j6 ⊢
 have HX:=Lib.hid (DX.new w nm (.slice ga gl.length gc) (.slice wa wl.length wc) ky kd p n x)
 have B0:=Lib.hid (balloc (.cells #[.string nm,.slice ga gl.length gc,.slice wa wl.length wc,.string ky,.string kd,.int .i64 p,.int .i64 n,.int .i64 x] 45) (.refl w.heap.size w))
 have H1:=Lib.hid (H0.out.enter B0.out)
 go_enter Tryz.func112,Tryz.ntmps112
 go_upto_region 1 with fail
 revert HX B0 H1
 generalize w.alloc (.cells #[.string nm,.slice ga gl.length gc,.slice wa wl.length wc,.string ky,.string kd,.int .i64 p,.int .i64 n,.int .i64 x] 45)=Z
 intro HX B0 H1
 have hgb:w.heap.size≠b:=by omega
 generalize w.heap.size=g at HX hgb ⊢
 obtain ⟨x0,x1,x2,x3,x4,x5,x6,x7,x8⟩:=HX.out.box
 go_wp2_with fail
 refine (ptext_c nm H1.out (by omega)).mono ?_
 rintro e w2 ⟨rfl,h2⟩
 have H2:=Lib.hid h2
 clear h2 H1 x0 x1 x2 x3 x4 x5 x6 x7 x8
 obtain ⟨x0,x1,x2,x3,x4,x5,x6,x7,x8⟩:=(DX.kept H2.out HX.out hgb).box
 go_wp2_with fail
 refine (HG.out _ _ _ H2.out (by simp only [List.length_append];omega)).mono ?_
 rintro e w3 ⟨rfl,h3⟩
 have H3:=Lib.hid h3
 clear h3 H2 x0 x1 x2 x3 x4 x5 x6 x7 x8
 obtain ⟨x0,x1,x2,x3,x4,x5,x6,x7,x8⟩:=(DX.kept H3.out HX.out hgb).box
 go_wp2_with fail
 refine (HU.out _ _ _ H3.out (by simp only [List.length_append];omega)).mono ?_
 rintro e w4 ⟨rfl,h4⟩
 have H4:=Lib.hid h4
 clear h4 H3 x0 x1 x2 x3 x4 x5 x6 x7 x8
 obtain ⟨x0,x1,x2,x3,x4,x5,x6,x7,x8⟩:=(DX.kept H4.out HX.out hgb).box
 go_wp2_with fail
 refine (ptext_c ky H4.out (by simp only [List.length_append];omega)).mono ?_
 rintro e w5 ⟨rfl,h5⟩
 have H5:=Lib.hid h5
 clear h5 H4 x0 x1 x2 x3 x4 x5 x6 x7 x8
 obtain ⟨x0,x1,x2,x3,x4,x5,x6,x7,x8⟩:=(DX.kept H5.out HX.out hgb).box
 go_wp2_with fail
 refine (ptext_c kd H5.out (by simp only [List.length_append];omega)).mono ?_
 rintro e w6 ⟨rfl,h6⟩
 have H6:=Lib.hid h6
 clear h6 H5 x0 x1 x2 x3 x4 x5 x6 x7 x8
 obtain ⟨x0,x1,x2,x3,x4,x5,x6,x7,x8⟩:=(DX.kept H6.out HX.out hgb).box
 go_wp2_with fail
 refine (pnumber_c p j1 j2 H6.out (by simp only [List.length_append];omega)).mono ?_
 rintro e w7 ⟨rfl,h7⟩
 have H7:=Lib.hid h7
 clear h7 H6 x0 x1 x2 x3 x4 x5 x6 x7 x8
 obtain ⟨x0,x1,x2,x3,x4,x5,x6,x7,x8⟩:=(DX.kept H7.out HX.out hgb).box
 go_wp2_with fail
 refine (pnumber_c n j3 j4 H7.out (by simp only [List.length_append];omega)).mono ?_
 rintro e w8 ⟨rfl,h8⟩
 have H8:=Lib.hid h8
 clear h8 H7 x0 x1 x2 x3 x4 x5 x6 x7 x8
 obtain ⟨x0,x1,x2,x3,x4,x5,x6,x7,x8⟩:=(DX.kept H8.out HX.out hgb).box
 go_wp2_with fail
 refine (pnumber_c x j5 j6 H8.out (by simp only [List.length_append];omega)).mono ?_
 rintro e w9 ⟨rfl,h9⟩
 have H9:=Lib.hid h9
 clear h9 H8 x0 x1 x2 x3 x4 x5 x6 x7 x8
 obtain ⟨x0,x1,x2,x3,x4,x5,x6,x7,x8⟩:=(DX.kept H9.out HX.out hgb).box
 go_wp2_with fail
 go_end0
 exact ⟨rfl,(H0.out.leave B0.out H9.out).to (by simp only [List.append_assoc])⟩
theorem _root_.Tryst.Var.kept {W0 Y w:World} {b g:Nat} {l:List UInt8} {T:TypeId} {cs:List Value} (h:PenS W0 Y b l w) (hx:Var Y g T cs) (hg:g≠b) (hT:T≠5):Var w g T cs:=Kept.box h.kept hx hg hT
theorem pop_c (q:OPB) {W0 Y w:World} {b:Nat} {o:List UInt8} (h:PenS W0 Y b o w) (hM:MaxW W0) (hT:Tab W0) (hD:DO W0 q.d) (hj:JIn q.d.j) (hq:OPIn q) (hm:q.kind=2→∀ p∈q.d.wl,mayP p.pr=true) (hl:o.length+(opL q.p).length≤800000000) :
  Calls Tryz.prog 56 #[.pointer (some ⟨b,0,none⟩),q.agg] w (PenR W0 Y b (o++opL q.p)):=by
 have HD:=Lib.hid (fun (hk:q.kind=2) (Z wx:World) (ox:List UInt8) (hx:PenS W0 Z b ox wx) hlx=>pdef_c q.d hx hM hT hD hj (hm hk) hlx)
 have H0:=Lib.hid h
 have hbw:=h.lt
 obtain ⟨k0,k1,n0,n1,i0⟩:=hq
 clear h hM hT hD hm hj
 obtain ⟨k,s,d,ok,id,n⟩:=q
 have HX:=Lib.hid (Var.new w 48 (OPB.mk k s d ok id n).cells)
 have B0:=Lib.hid (balloc (.cells (OPB.mk k s d ok id n).cells.toArray 48) (.refl w.heap.size w))
 have H1:=Lib.hid (H0.out.enter B0.out)
 unfold OPB.cells at HX B0 H1
 unfold OPB.agg
 unfold OPB.p opL OpP.head Tryst.headL at hl ⊢
 unfold DB.agg at HD
 simp only [List.length_append] at HD HX B0 H1 hl k0 k1 n0 n1 i0 ⊢
 go_enter Tryz.func56,Tryz.ntmps56
 go_upto_region 1 with fail
 revert HX B0 H1
 generalize w.alloc (.cells _ 48)=Z
 intro HX B0 H1
 have hgb:w.heap.size≠b:=by omega
 generalize w.heap.size=g at HX hgb ⊢
 have XX:=HX.out.cells
 simp only [VarC,Nat.reduceAdd,Nat.zero_add,and_true] at XX
 obtain ⟨x0,x1,x2,x3,x4,x5,x6,x7,x8,x9,x10,x11,x12⟩:=XX
 by_cases hk:k=2
 ·
  subst hk
  rw [if_pos rfl] at hl ⊢
  go_wp2_with fail
  refine (pnumber_c 2 k0 k1 H1.out (by omega)).mono ?_
  rintro e w2 ⟨rfl,h2⟩
  have H2:=Lib.hid h2
  clear h2 H1 x0 x1 x2 x3 x4 x5 x6 x7 x8 x9 x10 x11 x12
  have XX:=(Var.kept H2.out HX.out hgb (by decide)).cells
  simp only [VarC,Nat.reduceAdd,Nat.zero_add,and_true] at XX
  obtain ⟨x0,x1,x2,x3,x4,x5,x6,x7,x8,x9,x10,x11,x12⟩:=XX
  go_wp2_with fail
  refine (ptext_c s H2.out (by simp only [List.length_append];omega)).mono ?_
  rintro e w3 ⟨rfl,h3⟩
  have H3:=Lib.hid h3
  clear h3 H2 x0 x1 x2 x3 x4 x5 x6 x7 x8 x9 x10 x11 x12
  have XX:=(Var.kept H3.out HX.out hgb (by decide)).cells
  simp only [VarC,Nat.reduceAdd,Nat.zero_add,and_true] at XX
  obtain ⟨x0,x1,x2,x3,x4,x5,x6,x7,x8,x9,x10,x11,x12⟩:=XX
  go_wp2_with fail
  refine (ptruth_c ok H3.out (by simp only [List.length_append];omega)).mono ?_
  rintro e w4 ⟨rfl,h4⟩
  have H4:=Lib.hid h4
  clear h4 H3 x0 x1 x2 x3 x4 x5 x6 x7 x8 x9 x10 x11 x12
  have XX:=(Var.kept H4.out HX.out hgb (by decide)).cells
  simp only [VarC,Nat.reduceAdd,Nat.zero_add,and_true] at XX
  obtain ⟨x0,x1,x2,x3,x4,x5,x6,x7,x8,x9,x10,x11,x12⟩:=XX
  go_wp2_with fail
  refine (pid_c id (by omega) H4.out (by simp only [List.length_append];omega)).mono ?_
  rintro e w5 ⟨rfl,h5⟩
  have H5:=Lib.hid h5
  clear h5 H4 x0 x1 x2 x3 x4 x5 x6 x7 x8 x9 x10 x11 x12
  have XX:=(Var.kept H5.out HX.out hgb (by decide)).cells
  simp only [VarC,Nat.reduceAdd,Nat.zero_add,and_true] at XX
  obtain ⟨x0,x1,x2,x3,x4,x5,x6,x7,x8,x9,x10,x11,x12⟩:=XX
  go_wp2_with fail
  refine (pnumber_c n n0 n1 H5.out (by simp only [List.length_append];omega)).mono ?_
  rintro e w6 ⟨rfl,h6⟩
  have H6:=Lib.hid h6
  clear h6 H5 x0 x1 x2 x3 x4 x5 x6 x7 x8 x9 x10 x11 x12
  have XX:=(Var.kept H6.out HX.out hgb (by decide)).cells
  simp only [VarC,Nat.reduceAdd,Nat.zero_add,and_true] at XX
  obtain ⟨x0,x1,x2,x3,x4,x5,x6,x7,x8,x9,x10,x11,x12⟩:=XX
  go_wp2_with fail
  refine (HD.out (by trivial) _ _ _ H6.out (by simp only [List.length_append];omega)).mono ?_
  rintro e w7 ⟨rfl,h7⟩
  have H7:=Lib.hid h7
  clear h7 H6 x0 x1 x2 x3 x4 x5 x6 x7 x8 x9 x10 x11 x12
  have XX:=(Var.kept H7.out HX.out hgb (by decide)).cells
  simp only [VarC,Nat.reduceAdd,Nat.zero_add,and_true] at XX
  obtain ⟨x0,x1,x2,x3,x4,x5,x6,x7,x8,x9,x10,x11,x12⟩:=XX
  go_wp2_with fail
  go_end0
  exact ⟨rfl,(H0.out.leave B0.out H7.out).to (by simp only [List.append_assoc])⟩
 ·
  rw [if_neg hk] at hl ⊢
  have hk2:(k==2)=false:=by simpa using hk
  go_wp2_with fail
  refine (pnumber_c k k0 k1 H1.out (by omega)).mono ?_
  rintro e w2 ⟨rfl,h2⟩
  have H2:=Lib.hid h2
  clear h2 H1 x0 x1 x2 x3 x4 x5 x6 x7 x8 x9 x10 x11 x12
  have XX:=(Var.kept H2.out HX.out hgb (by decide)).cells
  simp only [VarC,Nat.reduceAdd,Nat.zero_add,and_true] at XX
  obtain ⟨x0,x1,x2,x3,x4,x5,x6,x7,x8,x9,x10,x11,x12⟩:=XX
  go_wp2_with fail
  refine (ptext_c s H2.out (by simp only [List.length_append];omega)).mono ?_
  rintro e w3 ⟨rfl,h3⟩
  have H3:=Lib.hid h3
  clear h3 H2 x0 x1 x2 x3 x4 x5 x6 x7 x8 x9 x10 x11 x12
  have XX:=(Var.kept H3.out HX.out hgb (by decide)).cells
  simp only [VarC,Nat.reduceAdd,Nat.zero_add,and_true] at XX
  obtain ⟨x0,x1,x2,x3,x4,x5,x6,x7,x8,x9,x10,x11,x12⟩:=XX
  go_wp2_with fail
  refine (ptruth_c ok H3.out (by simp only [List.length_append];omega)).mono ?_
  rintro e w4 ⟨rfl,h4⟩
  have H4:=Lib.hid h4
  clear h4 H3 x0 x1 x2 x3 x4 x5 x6 x7 x8 x9 x10 x11 x12
  have XX:=(Var.kept H4.out HX.out hgb (by decide)).cells
  simp only [VarC,Nat.reduceAdd,Nat.zero_add,and_true] at XX
  obtain ⟨x0,x1,x2,x3,x4,x5,x6,x7,x8,x9,x10,x11,x12⟩:=XX
  go_wp2_with fail
  refine (pid_c id (by omega) H4.out (by simp only [List.length_append];omega)).mono ?_
  rintro e w5 ⟨rfl,h5⟩
  have H5:=Lib.hid h5
  clear h5 H4 x0 x1 x2 x3 x4 x5 x6 x7 x8 x9 x10 x11 x12
  have XX:=(Var.kept H5.out HX.out hgb (by decide)).cells
  simp only [VarC,Nat.reduceAdd,Nat.zero_add,and_true] at XX
  obtain ⟨x0,x1,x2,x3,x4,x5,x6,x7,x8,x9,x10,x11,x12⟩:=XX
  go_wp2_with fail
  refine (pnumber_c n n0 n1 H5.out (by simp only [List.length_append];omega)).mono ?_
  rintro e w6 ⟨rfl,h6⟩
  have H6:=Lib.hid h6
  clear h6 H5 x0 x1 x2 x3 x4 x5 x6 x7 x8 x9 x10 x11 x12
  have XX:=(Var.kept H6.out HX.out hgb (by decide)).cells
  simp only [VarC,Nat.reduceAdd,Nat.zero_add,and_true] at XX
  obtain ⟨x0,x1,x2,x3,x4,x5,x6,x7,x8,x9,x10,x11,x12⟩:=XX
  go_wp2_with fail
  go_end0
  exact ⟨rfl,(H0.out.leave B0.out H6.out).to (by simp only [List.append_assoc,List.append_nil])⟩
end Go.Proofs.YtcbicdencgjfiaaGreatDoor
/- which operations are the same -/
set_option linter.unusedVariables false
set_option linter.unusedSimpArgs false
namespace Go.Proofs.YtcbicdencgjfiaaGreatDoor
open Go.RowKit Tryst
set_option maxHeartbeats 4000000
set_option maxRecDepth 20000
theorem osame20_c (a b:OPB) (w:World) (hA:DO w a.d) (hB:DO w b.d):Calls Tryz.prog 23 #[a.agg,b.agg] w fun e w'=>e=.returned (.bool (sameO a b))∧Below w.heap.size w w':=by
 have CE:=Lib.hid (fun W (hb:Below w.heap.size w W)=>dSame_c a.d b.d W (hA.grow hb) (hB.grow hb))
 obtain ⟨R,hR⟩:∃ R,sameO a b=R:=⟨_,rfl⟩
 rw [hR]
 unfold sameO at hR
 clear hA hB
 obtain ⟨k,s,d,ok,id,n⟩:=a
 obtain ⟨k',s',d',ok',id',n'⟩:=b
 obtain ⟨pb,hpb⟩:∃ b,sameD d d'=b:=⟨_,rfl⟩
 simp only at CE hR
 rw [hpb] at CE hR
 have HR:=Lib.hid hR
 have HX:=Lib.hid (Var.new w 48 (OPB.mk k s d ok id n).cells)
 have HY:=Lib.hid (Var.new (w.alloc (.cells (OPB.mk k s d ok id n).cells.toArray 48)) 48 (OPB.mk k' s' d' ok' id' n').cells)
 have HB0:=Lib.hid (balloc (.cells (OPB.mk k' s' d' ok' id' n').cells.toArray 48) (balloc (.cells (OPB.mk k s d ok id n).cells.toArray 48) (.refl w.heap.size w)))
 have HX2:=Lib.hid (HX.out.grow (balloc (.cells (OPB.mk k' s' d' ok' id' n').cells.toArray 48) (.refl _ _)))
 rw [show (w.alloc (.cells (OPB.mk k s d ok id n).cells.toArray 48)).heap.size=w.heap.size+1 by simp] at HY
 clear hR hpb HX
 unfold OPB.cells at HX2 HY HB0
 unfold OPB.agg
 unfold DB.agg at CE
 simp only at CE HX2 HY HB0 ⊢
 go_enter Tryz.func23,Tryz.ntmps23
 go_upto_region 1 with fail
 revert HY HB0 HX2
 generalize (w.alloc (.cells _ 48)).alloc (.cells _ 48)=Z
 intro HY HB0 HX2
 have XX:=HX2.out.cells
 simp only [VarC,Nat.reduceAdd,Nat.zero_add,and_true] at XX
 obtain ⟨x0,x1,x2,x3,x4,x5,x6,x7,x8,x9,x10,x11,x12⟩:=XX
 have XX:=HY.out.cells
 simp only [VarC,Nat.reduceAdd,Nat.zero_add,and_true] at XX
 obtain ⟨y0,y1,y2,y3,y4,y5,y6,y7,y8,y9,y10,y11,y12⟩:=XX
 by_cases h1:k=k'
 ·
  subst h1
  by_cases h2:s=s'
  ·
   subst h2
   go_wp2_with fail
   refine (CE.out _ HB0.out).mono ?_
   rintro e w8 ⟨rfl,hb8⟩
   have HX8:=Lib.hid (HX2.out.grow hb8)
   have HY8:=Lib.hid (HY.out.grow hb8)
   have HB8:=Lib.hid (bstep hb8 HB0.out)
   clear hb8 HX2 HY x0 x1 x2 x3 x4 x5 x6 x7 x8 x9 x10 x11 x12 y0 y1 y2 y3 y4 y5 y6 y7 y8 y9 y10 y11 y12
   have XX:=HX8.out.cells
   simp only [VarC,Nat.reduceAdd,Nat.zero_add,and_true] at XX
   obtain ⟨x0,x1,x2,x3,x4,x5,x6,x7,x8,x9,x10,x11,x12⟩:=XX
   have XX:=HY8.out.cells
   simp only [VarC,Nat.reduceAdd,Nat.zero_add,and_true] at XX
   obtain ⟨y0,y1,y2,y3,y4,y5,y6,y7,y8,y9,y10,y11,y12⟩:=XX
   cases pb with
   | true=> 
    by_cases h4:ok=ok'
    ·
     subst h4
     by_cases h5:id=id'
     ·
      subst h5
      by_cases h6:n=n'
      ·
       subst h6
       have HN:=Lib.hid (show R=true by rw [← HR.out];simp)
       go_wp2_with fail
       go_ret
       exact ⟨ret_bool HN.out.symm,HB8.out⟩
      ·
       have HN:=Lib.hid (show R=false by rw [← HR.out];simp [h6])
       have b4:(n==n')=false:=by simpa using h6
       go_wp2_with fail
       go_ret
       exact ⟨ret_bool HN.out.symm,HB8.out⟩
     ·
      have HN:=Lib.hid (show R=false by rw [← HR.out];simp [h5])
      have b4:((id:Int)==(id':Int))=false:=by simp;omega
      go_wp2_with fail
      go_ret
      exact ⟨ret_bool HN.out.symm,HB8.out⟩
    ·
     have HN:=Lib.hid (show R=false by rw [← HR.out];simp [h4])
     have b4:(ok==ok')=false:=by simpa using h4
     go_wp2_with fail
     go_ret
     exact ⟨ret_bool HN.out.symm,HB8.out⟩
   | false=>
    have HN:=Lib.hid (show R=false by rw [← HR.out];simp)
    go_wp2_with fail
    go_ret
    exact ⟨ret_bool HN.out.symm,HB8.out⟩
  ·
   have HN:=Lib.hid (show R=false by rw [← HR.out];simp [h2])
   have b4:(s.toList==s'.toList)=false:=strNe (fun e=>h2 (str_ext e))
   go_wp2_with fail
   go_ret
   exact ⟨ret_bool HN.out.symm,HB0.out⟩
 ·
  have HN:=Lib.hid (show R=false by rw [← HR.out];simp [h1])
  have b4:(k==k')=false:=by simpa using h1
  go_wp2_with fail
  go_ret
  exact ⟨ret_bool HN.out.symm,HB0.out⟩
theorem rosame20_c (a b:OPB) (w:World) (hA:DO w a.d) (hB:DO w b.d):Calls Tryz.prog 18 #[a.agg,b.agg] w fun e w'=>e=.returned (.bool (sameO a b))∧Below w.heap.size w w':=by
 have CE:=Lib.hid (fun W (hb:Below w.heap.size w W)=>rdSame_c a.d b.d W (hA.grow hb) (hB.grow hb))
 obtain ⟨R,hR⟩:∃ R,sameO a b=R:=⟨_,rfl⟩
 rw [hR]
 unfold sameO at hR
 clear hA hB
 obtain ⟨k,s,d,ok,id,n⟩:=a
 obtain ⟨k',s',d',ok',id',n'⟩:=b
 obtain ⟨pb,hpb⟩:∃ b,sameD d d'=b:=⟨_,rfl⟩
 simp only at CE hR
 rw [hpb] at CE hR
 have HR:=Lib.hid hR
 have HX:=Lib.hid (Var.new w 48 (OPB.mk k s d ok id n).cells)
 have HY:=Lib.hid (Var.new (w.alloc (.cells (OPB.mk k s d ok id n).cells.toArray 48)) 48 (OPB.mk k' s' d' ok' id' n').cells)
 have HB0:=Lib.hid (balloc (.cells (OPB.mk k' s' d' ok' id' n').cells.toArray 48) (balloc (.cells (OPB.mk k s d ok id n).cells.toArray 48) (.refl w.heap.size w)))
 have HX2:=Lib.hid (HX.out.grow (balloc (.cells (OPB.mk k' s' d' ok' id' n').cells.toArray 48) (.refl _ _)))
 rw [show (w.alloc (.cells (OPB.mk k s d ok id n).cells.toArray 48)).heap.size=w.heap.size+1 by simp] at HY
 clear hR hpb HX
 unfold OPB.cells at HX2 HY HB0
 unfold OPB.agg
 unfold DB.agg at CE
 simp only at CE HX2 HY HB0 ⊢
 go_enter Tryz.func18,Tryz.ntmps18
 go_upto_region 1 with fail
 revert HY HB0 HX2
 generalize (w.alloc (.cells _ 48)).alloc (.cells _ 48)=Z
 intro HY HB0 HX2
 have XX:=HX2.out.cells
 simp only [VarC,Nat.reduceAdd,Nat.zero_add,and_true] at XX
 obtain ⟨x0,x1,x2,x3,x4,x5,x6,x7,x8,x9,x10,x11,x12⟩:=XX
 have XX:=HY.out.cells
 simp only [VarC,Nat.reduceAdd,Nat.zero_add,and_true] at XX
 obtain ⟨y0,y1,y2,y3,y4,y5,y6,y7,y8,y9,y10,y11,y12⟩:=XX
 by_cases h1:k=k'
 ·
  subst h1
  by_cases h2:s=s'
  ·
   subst h2
   by_cases h4:ok=ok'
   ·
    subst h4
    by_cases h5:id=id'
    ·
     subst h5
     by_cases h6:n=n'
     ·
      subst h6
      go_wp2_with fail
      refine (CE.out _ HB0.out).mono ?_
      rintro e w8 ⟨rfl,hb8⟩
      have HX8:=Lib.hid (HX2.out.grow hb8)
      have HY8:=Lib.hid (HY.out.grow hb8)
      have HB8:=Lib.hid (bstep hb8 HB0.out)
      clear hb8 HX2 HY x0 x1 x2 x3 x4 x5 x6 x7 x8 x9 x10 x11 x12 y0 y1 y2 y3 y4 y5 y6 y7 y8 y9 y10 y11 y12
      have XX:=HX8.out.cells
      simp only [VarC,Nat.reduceAdd,Nat.zero_add,and_true] at XX
      obtain ⟨x0,x1,x2,x3,x4,x5,x6,x7,x8,x9,x10,x11,x12⟩:=XX
      have XX:=HY8.out.cells
      simp only [VarC,Nat.reduceAdd,Nat.zero_add,and_true] at XX
      obtain ⟨y0,y1,y2,y3,y4,y5,y6,y7,y8,y9,y10,y11,y12⟩:=XX
      have HN:=Lib.hid (show R=pb by rw [← HR.out];simp)
      go_wp2_with fail
      go_ret
      exact ⟨ret_bool HN.out.symm,HB8.out⟩
     ·
      have HN:=Lib.hid (show R=false by rw [← HR.out];simp [h6])
      have b4:(n==n')=false:=by simpa using h6
      go_wp2_with fail
      go_ret
      exact ⟨ret_bool HN.out.symm,HB0.out⟩
    ·
     have HN:=Lib.hid (show R=false by rw [← HR.out];simp [h5])
     have b4:((id:Int)==(id':Int))=false:=by simp;omega
     go_wp2_with fail
     go_ret
     exact ⟨ret_bool HN.out.symm,HB0.out⟩
   ·
    have HN:=Lib.hid (show R=false by rw [← HR.out];simp [h4])
    have b4:(ok==ok')=false:=by simpa using h4
    go_wp2_with fail
    go_ret
    exact ⟨ret_bool HN.out.symm,HB0.out⟩
  ·
   have HN:=Lib.hid (show R=false by rw [← HR.out];simp [h2])
   have b4:(s.toList==s'.toList)=false:=strNe (fun e=>h2 (str_ext e))
   go_wp2_with fail
   go_ret
   exact ⟨ret_bool HN.out.symm,HB0.out⟩
 ·
  have HN:=Lib.hid (show R=false by rw [← HR.out];simp [h1])
  have b4:(k==k')=false:=by simpa using h1
  go_wp2_with fail
  go_ret
  exact ⟨ret_bool HN.out.symm,HB0.out⟩
end Go.Proofs.YtcbicdencgjfiaaGreatDoor
