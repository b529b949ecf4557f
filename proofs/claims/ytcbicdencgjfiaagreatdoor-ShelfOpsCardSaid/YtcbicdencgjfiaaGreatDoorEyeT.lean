/- shelf.TakeOp -/
import Derived.Test.YtcbicdencgjfiaaGreatDoorEyeO
import Derived.Test.YtcbicdencgjfiaaGreatDoorPenF
set_option linter.unusedVariables false
set_option linter.unusedSimpArgs false
namespace Go.Proofs.YtcbicdencgjfiaaGreatDoor
open Go.RowKit Tryst
set_option maxHeartbeats 4000000
set_option maxRecDepth 20000
theorem DM.parts {S:Nat→Prop} {w:World} {d:DB} (h:DM S w d) (hf:d.dp.Fits) (hl:(defL d.dp).length≤1000000):DO w d∧JIn d.j:=by
 unfold DP.Fits DB.dp at hf
 unfold DB.dp defL listL at hl
 simp only [List.length_append,List.length_map] at hf hl
 obtain ⟨_,_,⟨_,hw⟩,_,_,k1,k2,k3⟩:=hf
 have g1:=flat_len (f:=strL) (fun x=>by have:=strL_ge x;omega) d.gl
 have g2:=flat_len (f:=whereL) (fun x=>textL_pos _) (d.wl.map PB.pr)
 rw [List.length_map] at g2
 have n1:=strL_ge d.name
 have n2:=strL_ge d.key
 have n3:=strL_ge d.j.kind
 have i1:=fold_in k1
 have i2:=fold_in k2
 have i3:=fold_in k3
 refine ⟨⟨by omega,by omega,fun g hg=>?_,strs_row.2 h.g.row,h.g.sl,by omega,⟨h.w.row,h.w.sl,fun p hp=>?_⟩,by omega⟩,⟨by omega,i1.1,i1.2,i2.1,i2.2,i3.1,i3.2⟩⟩
 ·
  have:=flat_mem (f:=strL) hg
  have:=strL_ge g
  omega
 ·
  refine ⟨(h.w.mem p hp).keep (fun g _ _=>⟨rfl,trivial⟩) (Nat.le_refl _),?_⟩
  obtain ⟨_,h2⟩:=hw p.pr (List.mem_map.2 ⟨p,hp,rfl⟩)
  have h3:=(parse_got h2).2
  rw [mayP_eq,Bool.and_eq_true,decide_eq_true_eq] at h3
  rw [nodesB_pr]
  omega
theorem DP.zero_fits:DP.zero.Fits:=by
 unfold DP.Fits DP.zero fold
 simp
theorem opIn {S:Nat→Prop} {w:World} {y:OPB} {l:List UInt8} (h:DM S w y.d) (hf:y.p.Fits) (hl:opL y.p=l) (hn:l.length≤1000000):DO w y.d∧JIn y.d.j∧OPIn y∧y.s.size≤1000000:=by
 subst hl
 unfold OpP.Fits OPB.p at hf
 unfold OPB.p opL OpP.head Tryst.headL at hn
 simp only [List.length_append] at hf hn
 obtain ⟨⟨f1,f2,_,f4,f5⟩,h2,h3⟩:=hf
 have i1:=fold_in f1
 have i2:=fold_in f5
 have n1:=strL_ge y.s
 have hd:DO w y.d∧JIn y.d.j:=by
  by_cases hk:y.kind=2
  ·
   rw [if_pos hk] at hn
   exact h.parts (h2 hk) (by omega)
  ·
   have e:=h3 hk
   exact h.parts (by rw [e];exact DP.zero_fits) (by rw [e];decide)
 exact ⟨hd.1,hd.2,⟨i1.1,i1.2,i2.1,i2.2,by omega⟩,by omega⟩
theorem ewhole_c {W0 w:World} {b:Nat} {s:List UInt8 × Bool} (h:EyeS W0 b s w) :
  Calls Tryz.prog 42 #[.pointer (some ⟨b,0,none⟩)] w fun e w'=>e=.returned (.bool (!s.2&&s.1.isEmpty))∧w=w':=by
 obtain ⟨l,d⟩:=s
 obtain ⟨hz,x0,x1,z0,z1⟩:=ebox h
 simp only at x0 x1
 clear h
 cases d with
 | true=>
  go_enter Tryz.func42,Tryz.ntmps42
  go_wp2_with fail
  go_ret
  exact ⟨rfl,rfl⟩
 | false=>
  cases l with
  | nil=>
   go_enter Tryz.func42,Tryz.ntmps42
   go_wp2_with fail
   go_ret
   exact ⟨rfl,rfl⟩
  | cons c r=>
   have b1:(⟨(c :: r).toArray⟩:ByteArray).toList.isEmpty=false:=by rw [str_toList];rfl
   go_enter Tryz.func42,Tryz.ntmps42
   go_wp2_with fail
   go_ret
   exact ⟨rfl,rfl⟩
theorem takeO_fits {l:List UInt8} {o:OpP} (h:takeO l=some o):o.Fits:=by
 unfold takeO at h
 split at h
 ·
  rename_i hc
  obtain ⟨h1,h2,h3⟩:=hc
  cases h
  exact (opC.got l (opR (l,false)).1 [] (Prod.ext rfl (Prod.ext h2 h1))).2
 ·
  cases h
def ToR (l:List UInt8) (w:World) (e:Ending) (w':World):Prop:=∃ y:OPB,e=.returned (.tuple #[y.agg,.int .i64 (if (takeO l).isSome=true then 0 else 2)])∧((takeO l=none∧y=OPB.zero)∨takeO l=some y.p)∧DM (fun g=>w.heap.size≤g) w' y.d∧Below w.heap.size w w'
theorem ToR.no {l:List UInt8} {w w':World} (h:takeO l=none) (hb:Below w.heap.size w w'):ToR l w (.returned (.tuple #[OPB.zero.agg,.int .i64 2])) w':=by
 refine ⟨.zero,?_,.inl ⟨h,rfl⟩,⟨LM.nil _ _,LM.nil _ _⟩,hb⟩
 rw [h]
 rfl
theorem ToR.yes {l:List UInt8} {w w':World} {y:OPB} (h:takeO l=some y.p) (hm:DM (fun g=>w.heap.size≤g) w' y.d) (hb:Below w.heap.size w w'):ToR l w (.returned (.tuple #[y.agg,.int .i64 0])) w':=by
 refine ⟨y,?_,.inr h,hm,hb⟩
 rw [h]
 rfl
theorem takeop_c (l:ByteArray) (hl:l.size≤1000000) (w:World) (hM:MaxW w):Calls Tryz.prog 19 #[.string l] w (ToR l.data.toList w):=by
 have HZ:=Lib.hid (Var.new w 48 [.int .i64 0,.string ⟨#[]⟩,.string ⟨#[]⟩,.slice none 0 0,.slice none 0 0,.string ⟨#[]⟩,.string ⟨#[]⟩,.int .i64 0,.int .i64 0,.int .i64 0,.bool false,.int .u64 0,.int .i64 0])
 have HB0:=Lib.hid (balloc (.cells #[.int .i64 0,.string ⟨#[]⟩,.string ⟨#[]⟩,.slice none 0 0,.slice none 0 0,.string ⟨#[]⟩,.string ⟨#[]⟩,.int .i64 0,.int .i64 0,.int .i64 0,.bool false,.int .u64 0,.int .i64 0] 48) (.refl w.heap.size w))
 have HM:=Lib.hid hM
 have hsz:(w.alloc (.cells #[.int .i64 0,.string ⟨#[]⟩,.string ⟨#[]⟩,.slice none 0 0,.slice none 0 0,.string ⟨#[]⟩,.string ⟨#[]⟩,.int .i64 0,.int .i64 0,.int .i64 0,.bool false,.int .u64 0,.int .i64 0] 48)).heap.size=w.heap.size+1:=by simp
 have HSZ:=Lib.hid hsz
 obtain ⟨L,hL⟩:∃ L,l.data.toList=L:=⟨_,rfl⟩
 obtain rfl:l=⟨L.toArray⟩:=str_ext (by rw [hL,mk_str])
 rw [hL]
 have hl2:L.length≤1000000:=hl
 clear hM hsz hL hl
 go_enter Tryz.func19,Tryz.ntmps19
 go_upto_region 1 with fail
 revert HZ HB0 HSZ
 rw [show (w.alloc (.cells [.int .i64 0,.string ⟨#[]⟩,.string ⟨#[]⟩,.slice none 0 0,.slice none 0 0,.string ⟨#[]⟩,.string ⟨#[]⟩,.int .i64 0,.int .i64 0,.int .i64 0,.bool false,.int .u64 0,.int .i64 0].toArray 48))=w.alloc (.cells #[.int .i64 0,.string ⟨#[]⟩,.string ⟨#[]⟩,.slice none 0 0,.slice none 0 0,.string ⟨#[]⟩,.string ⟨#[]⟩,.int .i64 0,.int .i64 0,.int .i64 0,.bool false,.int .u64 0,.int .i64 0] 48) from rfl]
 generalize w.alloc (.cells #[.int .i64 0,.string ⟨#[]⟩,.string ⟨#[]⟩,.slice none 0 0,.slice none 0 0,.string ⟨#[]⟩,.string ⟨#[]⟩,.int .i64 0,.int .i64 0,.int .i64 0,.bool false,.int .u64 0,.int .i64 0] 48)=W0
 intro HZ HB0 HSZ
 have HE:=Lib.hid (show EyeS W0 W0.heap.size (L,false) (W0.alloc (.cells #[.string ⟨L.toArray⟩,.bool false] 99)) from ⟨Var.new W0 99 [.string ⟨L.toArray⟩,.bool false],balloc _ (.refl _ _),Nat.le_refl _,hl2⟩)
 have HZ1:=Lib.hid (HZ.out.grow (balloc (.cells #[.string ⟨L.toArray⟩,.bool false] 99) (.refl W0.heap.size W0)))
 have HMW:=Lib.hid (HM.out.grow HB0.out)
 have hzz:W0.heap.size < (W0.alloc (.cells #[.string ⟨L.toArray⟩,.bool false] 99)).heap.size:=by simp
 go_upto_region 2 with fail
 revert HE HZ1 hzz
 generalize W0.alloc (.cells #[.string ⟨L.toArray⟩,.bool false] 99)=Z
 intro HE HZ1 hzz
 have hne:w.heap.size≠W0.heap.size:=by have:=HSZ.out;omega
 go_wp2_with fail
 refine (eop_k HE.out HMW.out).mono ?_
 rintro e w2 ⟨y,rfl,hm,hp,hs,ho⟩
 have HP:=Lib.hid hp
 have HTO:Hid (takeO L=if (opR (L,false)).2.2=false∧(opR (L,false)).2.1=[]∧mayOp (opR (L,false)).1=true then some (opR (L,false)).1 else none):=Lib.hid rfl
 have HC:Hid ((opR (L,false)).2.2=false→(opR (L,false)).2.1=[]→(opR (L,false)).1.Fits∧opL (opR (L,false)).1=L):=Lib.hid (fun h1 h2=>by
  have h:=opC.got L (opR (L,false)).1 [] (Prod.ext rfl (Prod.ext h2 h1))
  rw [List.append_nil] at h
  exact ⟨h.2,h.1.symm⟩)
 rw [← hp] at HTO HC
 generalize (opR (L,false)).2=s2 at hs HTO HC
 obtain ⟨r,d⟩:=s2
 simp only at HTO HC
 have H3:=Lib.hid (hs.quiet (balloc (.cells y.cells.toArray 48) (.refl w2.heap.size w2)))
 have Z3:=Lib.hid ((HZ1.out.oth ho hne).grow (balloc (.cells y.cells.toArray 48) (.refl w2.heap.size w2)))
 have Y3:=Lib.hid (Var.new w2 48 y.cells)
 have M3:=Lib.hid (show DM (fun g=>Z.heap.size≤g) (w2.alloc (.cells y.cells.toArray 48)) y.d from defK.keep hm (fun g hg hl=>⟨(balloc (.cells y.cells.toArray 48) (.refl w2.heap.size w2)).block g hl,hg⟩) (by simp))
 have hz2:=ho.size
 clear hm hp hs ho HE HZ1 HZ HP
 obtain ⟨k,s,dd,ok,id,n⟩:=y
 unfold OPB.cells at H3 Z3 Y3 M3
 dsimp only [opK,OPB.agg] at H3 Z3 Y3 M3 ⊢
 go_upto_region 3 with fail
 revert H3 Z3 Y3 M3
 generalize w2.alloc (.cells _ 48)=w3
 intro H3 Z3 Y3 M3
 have hlt3:w.heap.size < w2.heap.size:=by have:=HSZ.out;omega
 generalize w2.heap.size=g2 at Y3 hz2 hlt3 ⊢
 have HB3:=Lib.hid (HB0.out.trans (H3.out.low.mono (by have:=HSZ.out;omega)))
 have HMY:=Lib.hid (mayOp_p (OPB.mk k s dd ok id n))
 rw [HMY.out] at HTO
 have XX:=Z3.out.cells
 simp only [VarC,Nat.reduceAdd,Nat.zero_add,and_true] at XX
 obtain ⟨u0,u1,u2,u3,u4,u5,u6,u7,u8,u9,u10,u11,u12⟩:=XX
 have XX:=Y3.out.cells
 simp only [VarC,Nat.reduceAdd,Nat.zero_add,and_true] at XX
 obtain ⟨y0,y1,y2,y3,y4,y5,y6,y7,y8,y9,y10,y11,y12⟩:=XX
 have zf:=Z3.out.fz
 have zl:=Z3.out.lt
 by_cases hw:d=false∧r=[]
 ·
  obtain ⟨rfl,rfl⟩:=hw
  obtain ⟨hf,ho⟩:=HC.out rfl rfl
  obtain ⟨p1,p2,p3,p4⟩:=opIn (y:=OPB.mk k s dd ok id n) M3.out hf ho hl2
  have CM:=Lib.hid (fun W (hb:Below w3.heap.size w3 W)=>omay20_c (OPB.mk k s dd ok id n) W (HMW.out.grow (H3.out.low.trans (hb.mono H3.out.low.size))) (DO.grow p1 hb) p4)
  unfold OPB.agg at CM
  simp only at CM
  cases hmy:mayO (OPB.mk k s dd ok id n) with
  | true=>
   rw [hmy] at HTO CM
   have HN:=Lib.hid (show takeO L=some (OPB.mk k s dd ok id n).p by rw [HTO.out,if_pos ⟨rfl,rfl,rfl⟩])
   clear hf ho p1 p2 p3 p4 HC HTO HMY hmy
   go_wp2_with fail
   refine (ewhole_c H3.out).mono ?_
   rintro e w4 ⟨rfl,rfl⟩
   go_wp2_with fail
   refine (CM.out _ (.refl _ _)).mono ?_
   rintro e w5 ⟨rfl,hb5⟩
   have Z5:=Lib.hid (Z3.out.grow hb5)
   have Y5:=Lib.hid (Y3.out.grow hb5)
   have M5:=Lib.hid (show DM (fun g=>Z.heap.size≤g) w5 dd from defK.keep M3.out (fun g hg hl=>⟨hb5.block g hl,hg⟩) hb5.size)
   have HB5:=Lib.hid (bstep hb5 HB3.out)
   clear hb5 u0 u1 u2 u3 u4 u5 u6 u7 u8 u9 u10 u11 u12 y0 y1 y2 y3 y4 y5 y6 y7 y8 y9 y10 y11 y12 zf zl Z3 Y3 M3 HB3
   have XX:=Z5.out.cells
   simp only [VarC,Nat.reduceAdd,Nat.zero_add,and_true] at XX
   obtain ⟨u0,u1,u2,u3,u4,u5,u6,u7,u8,u9,u10,u11,u12⟩:=XX
   have XX:=Y5.out.cells
   simp only [VarC,Nat.reduceAdd,Nat.zero_add,and_true] at XX
   obtain ⟨y0,y1,y2,y3,y4,y5,y6,y7,y8,y9,y10,y11,y12⟩:=XX
   have zf:=Z5.out.fz
   have zl:=Z5.out.lt
   go_wp2_with fail
   refine bodyPost_ret (v:=.tuple #[(OPB.mk k s dd ok id n).agg,.int .i64 0]) (by simp [results,Tryz.results19,go_sem,OPB.agg, *]) rfl ?_
   have hm:=defK.keep M5.out (w':=setsV w5 w.heap.size 0 (OPB.mk k s dd ok id n).cells) (S':=fun g=>w.heap.size≤g) (fun g hg _=>by have h1:=HSZ.out;have h2:Z.heap.size≤g:=hg;exact ⟨setsV_away (by omega) _ _ _,by omega⟩) (by rw [setsV_size];exact Nat.le_refl _)
   exact ToR.yes HN.out hm (setsV_below (Nat.le_refl _) (OPB.mk k s dd ok id n).cells 0 _ HB5.out)
  | false=>
   rw [hmy] at HTO CM
   have HN:=Lib.hid (show takeO L=none by rw [HTO.out,if_neg (by simp)])
   clear hf ho p1 p2 p3 p4 HC HTO HMY hmy
   go_wp2_with fail
   refine (ewhole_c H3.out).mono ?_
   rintro e w4 ⟨rfl,rfl⟩
   go_wp2_with fail
   refine (CM.out _ (.refl _ _)).mono ?_
   rintro e w5 ⟨rfl,hb5⟩
   have Z5:=Lib.hid (Z3.out.grow hb5)
   have Y5:=Lib.hid (Y3.out.grow hb5)
   have M5:=Lib.hid (show DM (fun g=>Z.heap.size≤g) w5 dd from defK.keep M3.out (fun g hg hl=>⟨hb5.block g hl,hg⟩) hb5.size)
   have HB5:=Lib.hid (bstep hb5 HB3.out)
   clear hb5 u0 u1 u2 u3 u4 u5 u6 u7 u8 u9 u10 u11 u12 y0 y1 y2 y3 y4 y5 y6 y7 y8 y9 y10 y11 y12 zf zl Z3 Y3 M3 HB3
   have XX:=Z5.out.cells
   simp only [VarC,Nat.reduceAdd,Nat.zero_add,and_true] at XX
   obtain ⟨u0,u1,u2,u3,u4,u5,u6,u7,u8,u9,u10,u11,u12⟩:=XX
   have XX:=Y5.out.cells
   simp only [VarC,Nat.reduceAdd,Nat.zero_add,and_true] at XX
   obtain ⟨y0,y1,y2,y3,y4,y5,y6,y7,y8,y9,y10,y11,y12⟩:=XX
   have zf:=Z5.out.fz
   have zl:=Z5.out.lt
   go_wp2_with fail
   refine bodyPost_ret (v:=.tuple #[OPB.zero.agg,.int .i64 2]) (by simp [results,Tryz.results19,go_sem,OPB.agg,OPB.zero,DB.zero, *]) rfl ?_
   exact ToR.no HN.out (setsV_below (Nat.le_refl _) [.int .i64 0,.string ⟨#[]⟩,.string ⟨#[]⟩,.slice none 0 0,.slice none 0 0,.string ⟨#[]⟩,.string ⟨#[]⟩,.int .i64 0,.int .i64 0,.int .i64 0,.bool false,.int .u64 0,.int .i64 0] 0 _ HB5.out)
 ·
  have HN:=Lib.hid (show takeO L=none by rw [HTO.out,if_neg (fun h=>hw ⟨h.1,h.2.1⟩)])
  have hwb:(!d&&r.isEmpty)=false:=by
   cases d with
   | true=>rfl
   | false=>
    cases r with
    | nil=>exact absurd ⟨rfl,rfl⟩ hw
    | cons c r=>rfl
  have HWB:=Lib.hid hwb
  clear HC HTO HMY hw hwb
  go_wp2_with fail
  refine (ewhole_c H3.out).mono ?_
  rintro e w4 ⟨rfl,rfl⟩
  rw [show (!(r,d).2&&(r,d).1.isEmpty)=false from HWB.out]
  go_wp2_with fail
  refine bodyPost_ret (v:=.tuple #[OPB.zero.agg,.int .i64 2]) (by simp [results,Tryz.results19,go_sem,OPB.agg,OPB.zero,DB.zero, *]) rfl ?_
  exact ToR.no HN.out (setsV_below (Nat.le_refl _) [.int .i64 0,.string ⟨#[]⟩,.string ⟨#[]⟩,.slice none 0 0,.slice none 0 0,.string ⟨#[]⟩,.string ⟨#[]⟩,.int .i64 0,.int .i64 0,.int .i64 0,.bool false,.int .u64 0,.int .i64 0] 0 _ HB3.out)
end Go.Proofs.YtcbicdencgjfiaaGreatDoor
