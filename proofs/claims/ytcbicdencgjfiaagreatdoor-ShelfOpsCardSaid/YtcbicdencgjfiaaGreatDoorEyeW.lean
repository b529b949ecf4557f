/- shelf.eye: where -/
import Derived.Test.YtcbicdencgjfiaaGreatDoorEyeA
set_option linter.unusedVariables false
set_option linter.unusedSimpArgs false
namespace Go.Proofs.YtcbicdencgjfiaaGreatDoor
open Go.RowKit Tryst
set_option maxHeartbeats 4000000
set_option maxRecDepth 20000
theorem _root_.Tryst.Var.oth {b g:Nat} {w w':World} {T:TypeId} {cs:List Value} (h:Var w g T cs) (k:Oth b w w') (hg:g≠b):Var w' g T cs:=(k.same g h.lt hg).trans h
theorem _root_.Tryst.Oth.mono {b:Nat} {v w w':World} (h:Oth b w w') (hb:Below v.heap.size v w):Oth b v w':=(Oth.below hb).trans h
theorem _root_.Tryst.Oth.setsB {b g:Nat} {v w:World} (h:Oth b v w) (hg:v.heap.size≤g) (i:Nat) (vs:List Value):Oth b v (setsV w g i vs):=⟨by rw [setsV_size];exact h.size,fun k hk hb=>(setsV_away (by omega) vs i w).trans (h.same k hk hb)⟩
theorem _root_.Tryst.POwn.oth {b:Nat} {w w':World} {S:Nat→Prop} {p:PB} (h:POwn w S p) (k:Oth b w w') (hb:∀ g,S g→g≠b):POwn w' S p:=h.keep (fun g hg hl=>⟨k.same g hl (hb g hg),hg⟩) k.size
theorem EyeS.sets {W0 w:World} {b g:Nat} {s:List UInt8 × Bool} (h:EyeS W0 b s w) (hg:g≠b) (hW:W0.heap.size≤g) (i:Nat) (vs:List Value):EyeS W0 b s (setsV w g i vs):=⟨(setsV_away (fun e=>hg e.symm) vs i w).trans h.v,setsV_below hW vs i w h.low,h.ge,h.n⟩
theorem _root_.Tryst.POwn.sets {g:Nat} {w:World} {S S':Nat→Prop} {p:PB} (h:POwn w S p) (hg:∀ k,S k→k≠g∧S' k) (i:Nat) (vs:List Value):POwn (setsV w g i vs) S' p:=h.keep (fun k hk _=>⟨setsV_away (hg k hk).1 vs i w,(hg k hk).2⟩) (by rw [setsV_size];exact Nat.le_refl _)
theorem _root_.Tryst.POwn.zero (w:World) (S:Nat→Prop):POwn w S (.mk ⟨#[]⟩ ⟨#[]⟩ false 0 ⟨#[]⟩ none 0 []):=.mk _ _ _ _ _ _ _ _ (by decide) (by decide) (by decide) (by decide) (by decide) (Row.nil _ _ _) ⟨Nat.le_refl _,fun A h=>(by cases h),fun _=>rfl⟩ (fun b o h=>by cases h) (fun b o h=>by cases h) (fun x h=>by cases h)
def WhR (W0:World) (b:Nat) (s:List UInt8 × Bool) (w:World) (e:Ending) (w':World):Prop:=∃ y:PB,e=.returned y.agg∧POwn w' (fun g=>w.heap.size≤g) y∧y.pr=(whereR s).1∧EyeS W0 b (whereR s).2 w'∧Oth b w w'
theorem idR_le (s:List UInt8 × Bool):(idR s).2.1.length≤s.1.length:=by
 unfold idR
 split
 ·
  exact Nat.le_refl _
 ·
  split
  ·
   simp only [List.length_drop];omega
  ·
   exact Nat.le_refl _
theorem textR_le (s:List UInt8 × Bool):(textR s).1.length≤s.1.length:=by
 have:=idR_le s
 unfold textR
 split
 ·
  exact Nat.zero_le _
 ·
  split
  ·
   simp only [List.length_take];omega
  ·
   exact Nat.zero_le _
theorem ewhere_c {W0 w:World} {b:Nat} {s:List UInt8 × Bool} (h:EyeS W0 b s w) (hM:MaxW W0) :
  Calls Tryz.prog 170 #[.pointer (some ⟨b,0,none⟩)] w (WhR W0 b s w):=by
 have H0:=Lib.hid (h.quiet (balloc (.cells #[.string ⟨#[]⟩,.string ⟨#[]⟩,.bool false,.int .i64 0,.string ⟨#[]⟩,.slice none 0 0] 123) (.refl w.heap.size w)))
 have HV:=Lib.hid (Var.new w 123 [.string ⟨#[]⟩,.string ⟨#[]⟩,.bool false,.int .i64 0,.string ⟨#[]⟩,.slice none 0 0])
 have HB:=Lib.hid (balloc (.cells #[.string ⟨#[]⟩,.string ⟨#[]⟩,.bool false,.int .i64 0,.string ⟨#[]⟩,.slice none 0 0] 123) (.refl w.heap.size w))
 have hbw:=h.v.lt
 have HM:=Lib.hid hM
 have HWR:Hid (whereR s=if (textR s).2.2=true then (zeroP,(textR s).2) else match parseP (textR s).1 with
  | some p=>(p,(textR s).2)
  | none=>(zeroP,((textR s).2.1,true))):=Lib.hid rfl
 have HTL:Hid ((textR s).1.length≤1000000):=Lib.hid (Nat.le_trans (textR_le s) h.n)
 clear h hM
 go_enter Tryz.func170,Tryz.ntmps170
 go_upto_region 1 with fail
 revert H0 HV HB
 rw [show (w.alloc (.cells [Value.string ⟨#[]⟩,.string ⟨#[]⟩,.bool false,.int .i64 0,.string ⟨#[]⟩,.slice none 0 0].toArray 123))=w.alloc (.cells #[.string ⟨#[]⟩,.string ⟨#[]⟩,.bool false,.int .i64 0,.string ⟨#[]⟩,.slice none 0 0] 123) from rfl]
 generalize w.alloc (.cells #[.string ⟨#[]⟩,.string ⟨#[]⟩,.bool false,.int .i64 0,.string ⟨#[]⟩,.slice none 0 0] 123)=Y
 intro H0 HV HB
 have hgb:w.heap.size≠b:=by omega
 have CT:=Lib.hid (etext_c H0.out)
 generalize hts:textR s=ts at CT HWR HTL
 obtain ⟨R,hR⟩:∃ R,whereR s=R:=⟨_,rfl⟩
 rw [hR] at HWR
 have HR:=Lib.hid hR
 clear hts hR
 obtain ⟨tx,s1⟩:=ts
 simp only at CT HWR HTL
 go_wp2_with fail
 refine CT.out.mono ?_
 rintro e w1 ⟨rfl,h1,h2⟩
 have H1:=Lib.hid h1
 have O1:=Lib.hid (h2.mono HB.out)
 have V1:=Lib.hid (HV.out.oth h2 hgb)
 have hV1:=V1.out.lt
 clear h1 h2 CT H0 HV HB
 have hz1:=O1.out.size
 go_wp2_with fail
 refine (parse_c ⟨tx.toArray⟩ (by rw [mk_size];exact HTL.out) w1 (HM.out.grow H1.out.low)).mono ?_
 rintro e w2 ⟨y,rfl,ho,hp,hb⟩
 rw [mk_str] at hp ⊢
 have HB2:=Lib.hid (balloc (.cells #[.string y.op,.string y.s,.bool y.num,.int .i64 y.n,.string y.vs,.slice y.a y.l.length y.c] 123) hb)
 have HP:=Lib.hid hp
 have HO:=Lib.hid (ho.grow (balloc (.cells #[.string y.op,.string y.s,.bool y.num,.int .i64 y.n,.string y.vs,.slice y.a y.l.length y.c] 123) (.refl _ _)) (fun _ h=>h))
 have VY:=Lib.hid (Var.new w2 123 [.string y.op,.string y.s,.bool y.num,.int .i64 y.n,.string y.vs,.slice y.a y.l.length y.c])
 have H2:=Lib.hid (H1.out.quiet HB2.out)
 have O2:=Lib.hid (O1.out.trans (Oth.below HB2.out))
 have V2:=Lib.hid (V1.out.grow HB2.out)
 have hz2:=hb.size
 clear ho hp hb HB2 H1 O1 V1
 unfold PB.agg
 go_upto_region 2 with fail
 revert HO VY H2 O2 V2
 generalize w2.alloc (.cells _ 123)=Z
 intro HO VY H2 O2 V2
 have hgg:w.heap.size < w2.heap.size:=by have:=hV1;omega
 generalize w2.heap.size=g2 at VY hz2 hgg ⊢
 have HPE:Hid (((perr (parseP tx))==0)=(parseP tx).isSome):=Lib.hid (by
  unfold perr
  cases parseP tx<;>rfl)
 generalize hok:(parseP tx).isSome=ok at HPE
 have hpe:=HPE.out
 generalize perr (parseP tx)=pe at hpe ⊢
 have XX:=V2.out.cells
 simp only [VarC,Nat.reduceAdd,Nat.zero_add,and_true] at XX
 obtain ⟨x0,x1,x2,x3,x4,x5⟩:=XX
 have z0:=V2.out.fz 0
 have z1:=V2.out.fz 1
 have z2:=V2.out.fz 2
 have z3:=V2.out.fz 3
 have z4:=V2.out.fz 4
 have z5:=V2.out.fz 5
 go_wp2_with fail
 refine (epast_c 0 ok H2.out (fun _ _=>⟨by omega,by omega⟩)).mono ?_
 rintro e w3 ⟨rfl,h3,h4⟩
 have H3:=Lib.hid h3
 have O3:=Lib.hid (O2.out.trans h4)
 have V3:=Lib.hid (V2.out.oth h4 hgb)
 have HO3:=Lib.hid (HO.out.oth h4 (fun g hg=>by have:=hg;omega))
 have VY3:=Lib.hid (VY.out.oth h4 (by omega))
 clear h3 h4 x0 x1 x2 x3 x4 x5 z0 z1 z2 z3 z4 z5 H2 O2 V2 HO VY hpe HPE
 have XX:=V3.out.cells
 simp only [VarC,Nat.reduceAdd,Nat.zero_add,and_true] at XX
 obtain ⟨x0,x1,x2,x3,x4,x5⟩:=XX
 have XX:=VY3.out.cells
 simp only [VarC,Nat.reduceAdd,Nat.zero_add,and_true] at XX
 obtain ⟨y0,y1,y2,y3,y4,y5⟩:=XX
 have z0:=V3.out.fz 0
 have z1:=V3.out.fz 1
 have z2:=V3.out.fz 2
 have z3:=V3.out.fz 3
 have z4:=V3.out.fz 4
 have z5:=V3.out.fz 5
 have hg3:=V3.out.lt
 have hWg:W0.heap.size≤w.heap.size:=Nat.le_of_lt (Nat.lt_of_le_of_lt H3.out.ge hbw)
 obtain ⟨l1,d1⟩:=s1
 simp only at HWR
 cases hb:(pastR 0 ok (l1,d1)).2 with
 | true=>
  have HN:Hid (R=(zeroP,(l1,true))∧pastR 0 ok (l1,d1)=(l1,true)):=Lib.hid (by
   unfold pastR at hb ⊢
   rw [HWR.out]
   cases d1 with
   | true=>simp
   | false=>
    cases hpp:parseP tx with
    | none=>
     rw [hpp] at hok
     subst hok
     simp
    | some p=>
     rw [hpp] at hok
     subst hok
     simp at hb)
  rw [HN.out.2] at H3
  clear hb hok
  go_wp2_with fail
  refine bodyPost_ret (v:=(PB.mk ⟨#[]⟩ ⟨#[]⟩ false 0 ⟨#[]⟩ none 0 []).agg) (by simp [results,Tryz.results170,go_sem,PB.agg,PB.op,PB.s,PB.num,PB.n,PB.vs,PB.a,PB.c,PB.l, *]) rfl ?_
  unfold WhR
  rw [HR.out,HN.out.1]
  exact ⟨_,rfl,POwn.zero _ _,rfl,H3.out.sets hgb hWg 0 [.string ⟨#[]⟩,.string ⟨#[]⟩,.bool false,.int .i64 0,.string ⟨#[]⟩,.slice none 0 0],O3.out.setsB (Nat.le_refl _) 0 [.string ⟨#[]⟩,.string ⟨#[]⟩,.bool false,.int .i64 0,.string ⟨#[]⟩,.slice none 0 0]⟩
 | false=>
  have HN:Hid (∃ p,parseP tx=some p∧R=(p,(l1,d1))∧pastR 0 ok (l1,d1)=(l1,d1)):=Lib.hid (by
   unfold pastR at hb ⊢
   rw [HWR.out]
   cases d1 with
   | true=>simp at hb
   | false=>
    cases hpp:parseP tx with
    | none=>
     rw [hpp] at hok
     subst hok
     simp at hb
    | some p=>
     rw [hpp] at hok
     subst hok
     exact ⟨p,rfl,by simp,by simp⟩)
  obtain ⟨p,hp,hR2,hpa⟩:=HN.out
  rw [hpa] at H3
  have HP2:=Lib.hid (show y.pr=p by rw [HP.out,hp];rfl)
  have HR2:=Lib.hid hR2
  clear hb HN hp hR2 hpa hok HP
  go_wp2_with fail
  refine bodyPost_ret (v:=y.agg) (by simp [results,Tryz.results170,go_sem,PB.agg, *]) rfl ?_
  unfold WhR
  rw [HR.out,HR2.out]
  exact ⟨y,rfl,HO3.out.sets (g:=w.heap.size) (fun k hk=>⟨by have:=hk;omega,by have:=hk;omega⟩) 0 [.string y.op,.string y.s,.bool y.num,.int .i64 y.n,.string y.vs,.slice y.a y.l.length y.c],HP2.out,H3.out.sets hgb hWg 0 [.string y.op,.string y.s,.bool y.num,.int .i64 y.n,.string y.vs,.slice y.a y.l.length y.c],O3.out.setsB (Nat.le_refl _) 0 [.string y.op,.string y.s,.bool y.num,.int .i64 y.n,.string y.vs,.slice y.a y.l.length y.c]⟩
end Go.Proofs.YtcbicdencgjfiaaGreatDoor
