/- ref20.LayOp -/
import Derived.Test.YtcbicdencgjfiaaGreatDoorAw20
import Derived.Test.YtcbicdencgjfiaaGreatDoorRShD
import Derived.Test.YtcbicdencgjfiaaGreatDoorShS
set_option linter.unusedVariables false
set_option linter.unusedSimpArgs false
namespace Go.Proofs.YtcbicdencgjfiaaGreatDoor
open Go.RowKit Tryst
set_option maxHeartbeats 16000000
set_option maxRecDepth 20000
theorem rlayop_c (q:OPB) (w:World) (hD:DO w q.d) (hj:JIn q.d.j) (hq:OPIn q) (hs:q.s.size≤1000000) (hm:q.kind=2→∀ p∈q.d.wl,mayP p.pr=true) (hl:q.kind=2→(defL q.d.dp).length≤1000000) :
  Calls Tryz.prog 21 #[q.agg] w fun e w'=>e=.returned (.string ⟨(opL q.p).toArray⟩)∧Below w.heap.size w w':=by
 have HDF:=Lib.hid (fun (hk:q.kind=2) W (hb:Below w.heap.size w W)=>rdef20_c q.d W (hD.grow hb) hj (hm hk) (hl hk))
 have C1:=Lib.hid (fun W=>rnum20_c q.kind hq.k0 hq.k1 W)
 have C2:=Lib.hid (fun W=>rtext20_c q.s (by omega) W)
 have C3:=Lib.hid (fun W=>rpackAll_c (q.id:Int) W (by omega) (by have:=hq.i;omega))
 have C4:=Lib.hid (fun W=>rnum20_c q.n hq.n0 hq.n1 W)
 rw [Int.toNat_natCast] at C3
 clear hD hj hq hm
 obtain ⟨k,s,d,ok,id,n⟩:=q
 simp only at HDF C1 C2 C3 C4 hs hl
 have e1:=numL_le k
 have e2:=strL_le s
 have e3:=pack_le id
 have e4:=numL_le n
 have s1:(⟨(numL k).toArray⟩:ByteArray).size≤10000000:=by rw [mk_size];omega
 have s2:(⟨(strL s).toArray⟩:ByteArray).size≤10000000:=by rw [mk_size];omega
 have s3:(⟨(pack id).toArray⟩:ByteArray).size≤10000000:=by rw [mk_size];omega
 have s4:(⟨(numL n).toArray⟩:ByteArray).size≤10000000:=by rw [mk_size];omega
 obtain ⟨O,hO⟩:∃ O:ByteArray,O=⟨(truthL ok).toArray⟩:=⟨_,rfl⟩
 have s5:O.size≤1:=by rw [hO,mk_size];exact Nat.le_refl _
 obtain ⟨D,hDD⟩:∃ D:ByteArray,⟨(defL d.dp).toArray⟩=D:=⟨_,rfl⟩
 have hd:k=2→D.size≤1000000:=fun e=>by rw [← hDD,mk_size];exact hl e
 have HE:Hid ((if k=2 then (⟨(numL k).toArray⟩:ByteArray)++⟨(strL s).toArray⟩++O++⟨(pack id).toArray⟩++⟨(numL n).toArray⟩++D else (⟨(numL k).toArray⟩:ByteArray)++⟨(strL s).toArray⟩++O++⟨(pack id).toArray⟩++⟨(numL n).toArray⟩)=⟨(opL (OPB.mk k s d ok id n).p).toArray⟩):=Lib.hid (by
  rw [hO,← hDD]
  unfold OPB.p opL OpP.head Tryst.headL
  simp only
  split
  ·
   exact str_ext (by simp)
  ·
   exact str_ext (by simp))
 have hs0:((⟨(numL k).toArray⟩:ByteArray)++⟨(strL s).toArray⟩++O++⟨(pack id).toArray⟩++⟨(numL n).toArray⟩).size≤50000000:=by
  rw [ByteArray.size_append,ByteArray.size_append,ByteArray.size_append,ByteArray.size_append]
  omega
 rw [hDD] at HDF
 clear hl hDD e1 e2 e3 e4 hs
 generalize (⟨(numL k).toArray⟩:ByteArray)=B1 at C1 s1 HE hs0
 generalize (⟨(strL s).toArray⟩:ByteArray)=B2 at C2 s2 HE hs0
 generalize (⟨(pack id).toArray⟩:ByteArray)=B3 at C3 s3 HE hs0
 generalize (⟨(numL n).toArray⟩:ByteArray)=B4 at C4 s4 HE hs0
 generalize (⟨(opL (OPB.mk k s d ok id n).p).toArray⟩:ByteArray)=R at HE ⊢
 have HX:=Lib.hid (Var.new w 48 (OPB.mk k s d ok id n).cells)
 have B0:=Lib.hid (balloc (.cells (OPB.mk k s d ok id n).cells.toArray 48) (.refl w.heap.size w))
 unfold OPB.cells at HX B0
 unfold OPB.agg
 unfold DB.agg at HDF
 simp only at HDF HX B0 ⊢
 cases ok with
 | false=>
  obtain rfl:O=⟨#[0]⟩:=hO
  go_enter Tryz.func21,Tryz.ntmps21
  go_upto_region 1 with fail
  revert HX B0
  generalize w.alloc (.cells _ 48)=Z
  intro HX B0
  generalize w.heap.size=g at HX ⊢
  have XX:=HX.out.cells
  simp only [VarC,Nat.reduceAdd,Nat.zero_add,and_true] at XX
  obtain ⟨x0,x1,x2,x3,x4,x5,x6,x7,x8,x9,x10,x11,x12⟩:=XX
  have hgz:=HX.out.lt
  go_upto_region 4 with fail
  refine Tryst2.wp_region_grows [.is (.pointer (some ⟨g,0,none⟩)),.is (.int .i64 k),.is (.string B1),.is (.pointer (some ⟨g,1,none⟩)),.is (.string s),.is (.string B2),.is (.string (B1++B2)),.is (.string ⟨#[0]⟩),.is (.string (B1++B2++⟨#[0]⟩)),.is (.pointer (some ⟨g,11,none⟩)),.is (.int .u64 (id:Nat)),.is (.string B3),.is (.string (B1++B2++⟨#[0]⟩++B3)),.is (.pointer (some ⟨g,12,none⟩)),.is (.int .i64 n),.is (.string B4),.is (.string (B1++B2++⟨#[0]⟩++B3++B4)),.is (.string (B1++B2++⟨#[0]⟩++B3++B4))] (by kernel_rfl) (by kernel_rfl) ?obl ?fin
  case obl=>
   simp only [YA,YL,YO,YR,Op.operands,Call.operands]
   repeat' apply And.intro
   any_goals trivial
   all_goals (intro tv w' hg hold hd;(try simp at hold);obtain ⟨hcg,hfg,hsg⟩:=YG hg)
   all_goals first | (go_simp;done) | (go_simp;rw [if_neg (by omega)];exact ⟨.refl _,rfl⟩) | (obtain ⟨⟨g,hvg,hgg,hcell⟩,_⟩:=hd;have hcell0:=hcell 0 (by decide);simp at hcell0;go_simp;done) | (go_simp;(first | with_reducible refine (C1.out _).mono ?_ | with_reducible refine (C2.out _).mono ?_ | with_reducible refine (C3.out _).mono ?_ | with_reducible refine (C4.out _).mono ?_);rintro e w2 ⟨rfl,hb2⟩;exact ⟨hb2,rfl⟩)
  case fin=>
   intro tv w' hg hR
   simp only [YF,YL,YR] at hR
   obtain ⟨hcg,hfg,hsg⟩:=YG hg
   simp only [YP,YL,Act.put,hR]
   have HX1:=Lib.hid (HX.out.grow (Tryst2.Grow.below hg (.refl _ _)))
   have HB1:=Lib.hid (bstep (Tryst2.Grow.below hg (.refl _ _)) B0.out)
   clear hg hR hcg hfg hsg x0 x1 x2 x3 x4 x5 x6 x7 x8 x9 x10 x11 x12 hgz HX B0 C1 C2 C3 C4
   have XX:=HX1.out.cells
   simp only [VarC,Nat.reduceAdd,Nat.zero_add,and_true] at XX
   obtain ⟨x0,x1,x2,x3,x4,x5,x6,x7,x8,x9,x10,x11,x12⟩:=XX
   generalize B1++B2++⟨#[0]⟩++B3++B4=A0 at HE hs0 ⊢
   by_cases hk:k=2
   ·
    subst hk
    have HD:=Lib.hid (HDF.out rfl w' HB1.out)
    have hds:=hd rfl
    clear HDF
    rw [if_pos rfl] at HE
    go_wp2_with fail
    refine HD.out.mono ?_
    rintro e w2 ⟨rfl,hb2⟩
    have HB2:=Lib.hid (bstep hb2 HB1.out)
    clear hb2 HD
    go_wp2_with fail
    go_ret
    exact ⟨congrArg (fun z=>Ending.returned (.string z)) HE.out,HB2.out⟩
   ·
    have hk2:(k==2)=false:=by simpa using hk
    rw [if_neg hk] at HE
    clear HDF
    go_wp2_with fail
    go_ret
    exact ⟨congrArg (fun z=>Ending.returned (.string z)) HE.out,HB1.out⟩
 | true=>
  obtain rfl:O=⟨#[1]⟩:=hO
  go_enter Tryz.func21,Tryz.ntmps21
  go_upto_region 1 with fail
  revert HX B0
  generalize w.alloc (.cells _ 48)=Z
  intro HX B0
  generalize w.heap.size=g at HX ⊢
  have XX:=HX.out.cells
  simp only [VarC,Nat.reduceAdd,Nat.zero_add,and_true] at XX
  obtain ⟨x0,x1,x2,x3,x4,x5,x6,x7,x8,x9,x10,x11,x12⟩:=XX
  have hgz:=HX.out.lt
  go_upto_region 4 with fail
  refine Tryst2.wp_region_grows [.is (.pointer (some ⟨g,0,none⟩)),.is (.int .i64 k),.is (.string B1),.is (.pointer (some ⟨g,1,none⟩)),.is (.string s),.is (.string B2),.is (.string (B1++B2)),.is (.string ⟨#[1]⟩),.is (.string (B1++B2++⟨#[1]⟩)),.is (.pointer (some ⟨g,11,none⟩)),.is (.int .u64 (id:Nat)),.is (.string B3),.is (.string (B1++B2++⟨#[1]⟩++B3)),.is (.pointer (some ⟨g,12,none⟩)),.is (.int .i64 n),.is (.string B4),.is (.string (B1++B2++⟨#[1]⟩++B3++B4)),.is (.string (B1++B2++⟨#[1]⟩++B3++B4))] (by kernel_rfl) (by kernel_rfl) ?obl ?fin
  case obl=>
   simp only [YA,YL,YO,YR,Op.operands,Call.operands]
   repeat' apply And.intro
   any_goals trivial
   all_goals (intro tv w' hg hold hd;(try simp at hold);obtain ⟨hcg,hfg,hsg⟩:=YG hg)
   all_goals first | (go_simp;done) | (go_simp;rw [if_neg (by omega)];exact ⟨.refl _,rfl⟩) | (obtain ⟨⟨g,hvg,hgg,hcell⟩,_⟩:=hd;have hcell0:=hcell 0 (by decide);simp at hcell0;go_simp;done) | (go_simp;(first | with_reducible refine (C1.out _).mono ?_ | with_reducible refine (C2.out _).mono ?_ | with_reducible refine (C3.out _).mono ?_ | with_reducible refine (C4.out _).mono ?_);rintro e w2 ⟨rfl,hb2⟩;exact ⟨hb2,rfl⟩)
  case fin=>
   intro tv w' hg hR
   simp only [YF,YL,YR] at hR
   obtain ⟨hcg,hfg,hsg⟩:=YG hg
   simp only [YP,YL,Act.put,hR]
   have HX1:=Lib.hid (HX.out.grow (Tryst2.Grow.below hg (.refl _ _)))
   have HB1:=Lib.hid (bstep (Tryst2.Grow.below hg (.refl _ _)) B0.out)
   clear hg hR hcg hfg hsg x0 x1 x2 x3 x4 x5 x6 x7 x8 x9 x10 x11 x12 hgz HX B0 C1 C2 C3 C4
   have XX:=HX1.out.cells
   simp only [VarC,Nat.reduceAdd,Nat.zero_add,and_true] at XX
   obtain ⟨x0,x1,x2,x3,x4,x5,x6,x7,x8,x9,x10,x11,x12⟩:=XX
   generalize B1++B2++⟨#[1]⟩++B3++B4=A0 at HE hs0 ⊢
   by_cases hk:k=2
   ·
    subst hk
    have HD:=Lib.hid (HDF.out rfl w' HB1.out)
    have hds:=hd rfl
    clear HDF
    rw [if_pos rfl] at HE
    go_wp2_with fail
    refine HD.out.mono ?_
    rintro e w2 ⟨rfl,hb2⟩
    have HB2:=Lib.hid (bstep hb2 HB1.out)
    clear hb2 HD
    go_wp2_with fail
    go_ret
    exact ⟨congrArg (fun z=>Ending.returned (.string z)) HE.out,HB2.out⟩
   ·
    have hk2:(k==2)=false:=by simpa using hk
    rw [if_neg hk] at HE
    clear HDF
    go_wp2_with fail
    go_ret
    exact ⟨congrArg (fun z=>Ending.returned (.string z)) HE.out,HB1.out⟩
end Go.Proofs.YtcbicdencgjfiaaGreatDoor
/- law20.ShelfReads -/
set_option linter.unusedVariables false
set_option linter.unusedSimpArgs false
namespace Go.Proofs.YtcbicdencgjfiaaGreatDoor
open Go.RowKit Tryst
set_option maxHeartbeats 8000000
set_option maxRecDepth 20000
theorem sameZ (w:World):Calls Tryz.prog 18 #[.agg #[.int .i64 0,.string ⟨#[]⟩,.string ⟨#[]⟩,.slice none 0 0,.slice none 0 0,.string ⟨#[]⟩,.string ⟨#[]⟩,.int .i64 0,.int .i64 0,.int .i64 0,.bool false,.int .u64 0,.int .i64 0],.agg #[.int .i64 0,.string ⟨#[]⟩,.string ⟨#[]⟩,.slice none 0 0,.slice none 0 0,.string ⟨#[]⟩,.string ⟨#[]⟩,.int .i64 0,.int .i64 0,.int .i64 0,.bool false,.int .u64 0,.int .i64 0]] w fun e w'=>e=.returned (.bool true)∧Below w.heap.size w w':=by
 have h:=rosame20_c .zero .zero w (DO.zero w) (DO.zero w)
 have e1:sameO .zero .zero=true:=(sameO_p _ _).2 rfl
 rw [e1] at h
 exact h
theorem shelfReads_c (t:ByteArray) (hs:t.size≤9223372036854775807) (w:World) (hM0:MaxW w) (hT:Tab w):Calls Tryz.prog 6 #[.string t] w fun e w'=>e=.returned (.bool true)∧Below w.heap.size w w':=by
 have HAW:=Lib.hid (fun W (hb:Below w.heap.size w W)=>awake20_c W (hM0.grow hb) (hT.grow hb))
 have HM:=Lib.hid (fun W (hb:Below w.heap.size w W)=>hM0.grow hb)
 by_cases hlt:3000 < t.size
 ·
  have hle:3000≤t.size:=by omega
  have hsz:(t.extract 0 3000).size≤3000:=by rw [ByteArray.size_extract];omega
  have HTO:=Lib.hid (takeop_c (t.extract 0 3000) (by omega) w hM0)
  clear hM0 hT
  go_enter Tryz.func6,Tryz.ntmps6
  go_wp2_with fail
  refine HTO.out.mono ?_
  rintro e w1 ⟨y,rfl,hy,hm,hb⟩
  have B1:=Lib.hid (balloc (.cells y.cells.toArray 48) hb)
  rcases hy with ⟨hn,rfl⟩ | hy
  ·
   rw [hn]
   have VY:=Lib.hid (show Var (w1.alloc (.cells #[.int .i64 0,.string ⟨#[]⟩,.string ⟨#[]⟩,.slice none 0 0,.slice none 0 0,.string ⟨#[]⟩,.string ⟨#[]⟩,.int .i64 0,.int .i64 0,.int .i64 0,.bool false,.int .u64 0,.int .i64 0] 48)) w1.heap.size 48 [.int .i64 0,.string ⟨#[]⟩,.string ⟨#[]⟩,.slice none 0 0,.slice none 0 0,.string ⟨#[]⟩,.string ⟨#[]⟩,.int .i64 0,.int .i64 0,.int .i64 0,.bool false,.int .u64 0,.int .i64 0] from Var.new w1 48 [.int .i64 0,.string ⟨#[]⟩,.string ⟨#[]⟩,.slice none 0 0,.slice none 0 0,.string ⟨#[]⟩,.string ⟨#[]⟩,.int .i64 0,.int .i64 0,.int .i64 0,.bool false,.int .u64 0,.int .i64 0])
   have B2:Hid (Below w.heap.size w (w1.alloc (.cells #[.int .i64 0,.string ⟨#[]⟩,.string ⟨#[]⟩,.slice none 0 0,.slice none 0 0,.string ⟨#[]⟩,.string ⟨#[]⟩,.int .i64 0,.int .i64 0,.int .i64 0,.bool false,.int .u64 0,.int .i64 0] 48))):=B1
   rw [show OPB.zero.agg=.agg #[.int .i64 0,.string ⟨#[]⟩,.string ⟨#[]⟩,.slice none 0 0,.slice none 0 0,.string ⟨#[]⟩,.string ⟨#[]⟩,.int .i64 0,.int .i64 0,.int .i64 0,.bool false,.int .u64 0,.int .i64 0] from rfl,show (if (none:Option OpP).isSome=true then (0:Int) else 2)=2 from rfl]
   clear hn hm hb HTO B1
   go_upto_region 4 with fail
   revert VY B2
   generalize w1.alloc (.cells #[.int .i64 0,.string ⟨#[]⟩,.string ⟨#[]⟩,.slice none 0 0,.slice none 0 0,.string ⟨#[]⟩,.string ⟨#[]⟩,.int .i64 0,.int .i64 0,.int .i64 0,.bool false,.int .u64 0,.int .i64 0] 48)=w2
   intro VY B2
   have XX:=VY.out.cells
   simp only [VarC,Nat.reduceAdd,Nat.zero_add,and_true] at XX
   obtain ⟨x0,x1,x2,x3,x4,x5,x6,x7,x8,x9,x10,x11,x12⟩:=XX
   go_wp2_with fail
   refine (sameZ w2).mono ?_
   rintro e w3 ⟨rfl,b3⟩
   have B3:=Lib.hid (bstep b3 B2.out)
   clear b3 x0 x1 x2 x3 x4 x5 x6 x7 x8 x9 x10 x11 x12
   go_wp2_with fail
   refine (HAW.out _ B3.out).mono ?_
   rintro e w4 ⟨rfl,b4⟩
   have B4:=Lib.hid (bstep b4 B3.out)
   clear b4
   go_wp2_with fail
   go_ret
   exact ⟨rfl,B4.out⟩
  ·
   obtain ⟨hl,hmo⟩:=takeO_got hy
   rw [mayOp_p] at hmo
   have hf:=takeO_fits hy
   rw [hy]
   have hsz3:(opL y.p).length≤1000000:=by rw [hl,len_str];omega
   obtain ⟨p1,p2,p3,p4⟩:=opIn hm hf rfl hsz3
   have CM:=Lib.hid (fun W (hM:MaxW W) (hb:Below w1.heap.size w1 W)=>romay20_c y W hM (p1.grow hb) p4)
   have CL:=Lib.hid (fun W (hb:Below w1.heap.size w1 W)=>rlayop_c y W (p1.grow hb) p2 p3 p4 (fun hk=>mayD_w ((mayO_s hmo).2 hk)) (fun hk=>by
    have e:(defL y.d.dp).length≤(opL y.p).length:=by
     unfold OPB.p opL
     simp only
     rw [if_pos hk,List.length_append]
     omega
    omega))
   rw [hmo] at CM
   have HL:Hid ((⟨(opL y.p).toArray⟩:ByteArray)=(t.extract 0 3000)):=Lib.hid (by rw [hl])
   rw [HL.out] at CL
   have VY:=Lib.hid (Var.new w1 48 y.cells)
   have BY:=Lib.hid (balloc (.cells y.cells.toArray 48) (.refl w1.heap.size w1))
   clear hl hmo hf hsz3 p1 p2 p3 p4 hm hb hy HTO
   obtain ⟨k,s,dd,ok,id,n⟩:=y
   unfold OPB.cells at VY BY B1
   unfold OPB.agg at CM CL ⊢
   simp only at CM CL VY BY B1 ⊢
   rw [show (some (OPB.mk k s dd ok id n).p:Option OpP).isSome=true from rfl]
   go_upto_region 4 with fail
   revert B1 VY BY
   generalize w1.alloc (.cells _ 48)=w2
   intro B1 VY BY
   have XX:=VY.out.cells
   simp only [VarC,Nat.reduceAdd,Nat.zero_add,and_true] at XX
   obtain ⟨x0,x1,x2,x3,x4,x5,x6,x7,x8,x9,x10,x11,x12⟩:=XX
   go_wp2_with fail
   refine (CM.out _ (HM.out _ B1.out) BY.out).mono ?_
   rintro e w3 ⟨rfl,b3⟩
   have V3:=Lib.hid (VY.out.grow b3)
   have B3:=Lib.hid (bstep b3 B1.out)
   have BY3:=Lib.hid (bstep b3 BY.out)
   clear b3 x0 x1 x2 x3 x4 x5 x6 x7 x8 x9 x10 x11 x12
   have XX:=V3.out.cells
   simp only [VarC,Nat.reduceAdd,Nat.zero_add,and_true] at XX
   obtain ⟨x0,x1,x2,x3,x4,x5,x6,x7,x8,x9,x10,x11,x12⟩:=XX
   go_wp2_with fail
   refine (CL.out _ BY3.out).mono ?_
   rintro e w4 ⟨rfl,b4⟩
   have B4:=Lib.hid (bstep b4 B3.out)
   clear b4 x0 x1 x2 x3 x4 x5 x6 x7 x8 x9 x10 x11 x12
   go_wp2_with fail
   refine (HAW.out _ B4.out).mono ?_
   rintro e w5 ⟨rfl,b5⟩
   have B5:=Lib.hid (bstep b5 B4.out)
   clear b5
   go_wp2_with fail
   go_ret
   exact ⟨rfl,B5.out⟩
 ·
  have hsz:t.size≤3000:=by omega
  have HTO:=Lib.hid (takeop_c t (by omega) w hM0)
  clear hM0 hT
  go_enter Tryz.func6,Tryz.ntmps6
  go_wp2_with fail
  refine HTO.out.mono ?_
  rintro e w1 ⟨y,rfl,hy,hm,hb⟩
  have B1:=Lib.hid (balloc (.cells y.cells.toArray 48) hb)
  rcases hy with ⟨hn,rfl⟩ | hy
  ·
   rw [hn]
   have VY:=Lib.hid (show Var (w1.alloc (.cells #[.int .i64 0,.string ⟨#[]⟩,.string ⟨#[]⟩,.slice none 0 0,.slice none 0 0,.string ⟨#[]⟩,.string ⟨#[]⟩,.int .i64 0,.int .i64 0,.int .i64 0,.bool false,.int .u64 0,.int .i64 0] 48)) w1.heap.size 48 [.int .i64 0,.string ⟨#[]⟩,.string ⟨#[]⟩,.slice none 0 0,.slice none 0 0,.string ⟨#[]⟩,.string ⟨#[]⟩,.int .i64 0,.int .i64 0,.int .i64 0,.bool false,.int .u64 0,.int .i64 0] from Var.new w1 48 [.int .i64 0,.string ⟨#[]⟩,.string ⟨#[]⟩,.slice none 0 0,.slice none 0 0,.string ⟨#[]⟩,.string ⟨#[]⟩,.int .i64 0,.int .i64 0,.int .i64 0,.bool false,.int .u64 0,.int .i64 0])
   have B2:Hid (Below w.heap.size w (w1.alloc (.cells #[.int .i64 0,.string ⟨#[]⟩,.string ⟨#[]⟩,.slice none 0 0,.slice none 0 0,.string ⟨#[]⟩,.string ⟨#[]⟩,.int .i64 0,.int .i64 0,.int .i64 0,.bool false,.int .u64 0,.int .i64 0] 48))):=B1
   rw [show OPB.zero.agg=.agg #[.int .i64 0,.string ⟨#[]⟩,.string ⟨#[]⟩,.slice none 0 0,.slice none 0 0,.string ⟨#[]⟩,.string ⟨#[]⟩,.int .i64 0,.int .i64 0,.int .i64 0,.bool false,.int .u64 0,.int .i64 0] from rfl,show (if (none:Option OpP).isSome=true then (0:Int) else 2)=2 from rfl]
   clear hn hm hb HTO B1
   go_upto_region 4 with fail
   revert VY B2
   generalize w1.alloc (.cells #[.int .i64 0,.string ⟨#[]⟩,.string ⟨#[]⟩,.slice none 0 0,.slice none 0 0,.string ⟨#[]⟩,.string ⟨#[]⟩,.int .i64 0,.int .i64 0,.int .i64 0,.bool false,.int .u64 0,.int .i64 0] 48)=w2
   intro VY B2
   have XX:=VY.out.cells
   simp only [VarC,Nat.reduceAdd,Nat.zero_add,and_true] at XX
   obtain ⟨x0,x1,x2,x3,x4,x5,x6,x7,x8,x9,x10,x11,x12⟩:=XX
   go_wp2_with fail
   refine (sameZ w2).mono ?_
   rintro e w3 ⟨rfl,b3⟩
   have B3:=Lib.hid (bstep b3 B2.out)
   clear b3 x0 x1 x2 x3 x4 x5 x6 x7 x8 x9 x10 x11 x12
   go_wp2_with fail
   refine (HAW.out _ B3.out).mono ?_
   rintro e w4 ⟨rfl,b4⟩
   have B4:=Lib.hid (bstep b4 B3.out)
   clear b4
   go_wp2_with fail
   go_ret
   exact ⟨rfl,B4.out⟩
  ·
   obtain ⟨hl,hmo⟩:=takeO_got hy
   rw [mayOp_p] at hmo
   have hf:=takeO_fits hy
   rw [hy]
   have hsz3:(opL y.p).length≤1000000:=by rw [hl,len_str];omega
   obtain ⟨p1,p2,p3,p4⟩:=opIn hm hf rfl hsz3
   have CM:=Lib.hid (fun W (hM:MaxW W) (hb:Below w1.heap.size w1 W)=>romay20_c y W hM (p1.grow hb) p4)
   have CL:=Lib.hid (fun W (hb:Below w1.heap.size w1 W)=>rlayop_c y W (p1.grow hb) p2 p3 p4 (fun hk=>mayD_w ((mayO_s hmo).2 hk)) (fun hk=>by
    have e:(defL y.d.dp).length≤(opL y.p).length:=by
     unfold OPB.p opL
     simp only
     rw [if_pos hk,List.length_append]
     omega
    omega))
   rw [hmo] at CM
   have HL:Hid ((⟨(opL y.p).toArray⟩:ByteArray)=t):=Lib.hid (by rw [hl])
   rw [HL.out] at CL
   have VY:=Lib.hid (Var.new w1 48 y.cells)
   have BY:=Lib.hid (balloc (.cells y.cells.toArray 48) (.refl w1.heap.size w1))
   clear hl hmo hf hsz3 p1 p2 p3 p4 hm hb hy HTO
   obtain ⟨k,s,dd,ok,id,n⟩:=y
   unfold OPB.cells at VY BY B1
   unfold OPB.agg at CM CL ⊢
   simp only at CM CL VY BY B1 ⊢
   rw [show (some (OPB.mk k s dd ok id n).p:Option OpP).isSome=true from rfl]
   go_upto_region 4 with fail
   revert B1 VY BY
   generalize w1.alloc (.cells _ 48)=w2
   intro B1 VY BY
   have XX:=VY.out.cells
   simp only [VarC,Nat.reduceAdd,Nat.zero_add,and_true] at XX
   obtain ⟨x0,x1,x2,x3,x4,x5,x6,x7,x8,x9,x10,x11,x12⟩:=XX
   go_wp2_with fail
   refine (CM.out _ (HM.out _ B1.out) BY.out).mono ?_
   rintro e w3 ⟨rfl,b3⟩
   have V3:=Lib.hid (VY.out.grow b3)
   have B3:=Lib.hid (bstep b3 B1.out)
   have BY3:=Lib.hid (bstep b3 BY.out)
   clear b3 x0 x1 x2 x3 x4 x5 x6 x7 x8 x9 x10 x11 x12
   have XX:=V3.out.cells
   simp only [VarC,Nat.reduceAdd,Nat.zero_add,and_true] at XX
   obtain ⟨x0,x1,x2,x3,x4,x5,x6,x7,x8,x9,x10,x11,x12⟩:=XX
   go_wp2_with fail
   refine (CL.out _ BY3.out).mono ?_
   rintro e w4 ⟨rfl,b4⟩
   have B4:=Lib.hid (bstep b4 B3.out)
   clear b4 x0 x1 x2 x3 x4 x5 x6 x7 x8 x9 x10 x11 x12
   go_wp2_with fail
   refine (HAW.out _ B4.out).mono ?_
   rintro e w5 ⟨rfl,b5⟩
   have B5:=Lib.hid (bstep b5 B4.out)
   clear b5
   go_wp2_with fail
   go_ret
   exact ⟨rfl,B5.out⟩
end Go.Proofs.YtcbicdencgjfiaaGreatDoor
