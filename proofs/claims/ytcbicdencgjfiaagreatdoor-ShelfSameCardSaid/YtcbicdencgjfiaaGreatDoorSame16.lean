import Derived.Test.YtcbicdencgjfiaaGreatDoorSameT
set_option linter.all false
set_option maxHeartbeats 4000000
set_option maxRecDepth 20000
namespace Go.Proofs.YtcbicdencgjfiaaGreatDoor
open Go Go.RowKit Tryst
def eqDd (x y:DeadB):Bool:=decide (x.sub=y.sub)&&decide (x.e=y.e)
def eqSb (x y:SubB):Bool:=vJc x.d y.d&&(qYL x.ol y.ol&&(qYC eqIn x.il y.il&&(decide (x.fails=y.fails)&&(decide (x.taken=y.taken)&&(decide (x.passes=y.passes)&&(decide (x.fires=y.fires)&&decide (x.over=y.over)))))))
def qYK (a b:RtB):Bool:=decide (a.now=b.now)&&(decide (a.total=b.total)&&(qYC eqTB a.tl b.tl&&(qYC eqLB a.ll b.ll&&(qYC eqUB a.ul b.ul&&(qYC eqUB a.gl b.gl&&(decide (a.sl.length=b.sl.length)&&(decide (a.dl.length=b.dl.length)&&((a.dl.zip b.dl).all (fun x=>eqDd x.1 x.2)&&(a.sl.zip b.sl).all (fun x=>eqSb x.1 x.2)))))))))
structure TwoR (w:World) (a b:RtB):Prop where
 ma:RtW w a
 mb:RtW w b
 xa:RtX a
 xb:RtX b
theorem TwoR.grow {w W:World} {a b:RtB} (h:TwoR w a b) (hb:Below w.heap.size w W):TwoR W a b:=⟨h.ma.grow hb,h.mb.grow hb,h.xa,h.xb⟩
theorem qYc {l:List TB} (h:∀ y∈l.map TB.p,TopX y) {t:TB} (ht:t∈l):t.log.length<=1500000:=(h _ (List.mem_map.2 ⟨t,ht,rfl⟩)).2.2.1
theorem qYY {l:List UB} (h:∀ y∈l.map UB.p,OutX y) {t:UB} (ht:t∈l):t.ids.length<=1500000:=(h _ (List.mem_map.2 ⟨t,ht,rfl⟩)).2.2.1.1
theorem kYE {tv:Nat->Value} {o:Oper} {p s:Nat} {W:World} {g:Nat} {cs:Array Value} {nm ky kd:ByteArray} {ga wa oa ia:Option Addr} {gn gc wn wc on oc jn jc:Nat} {dp dn dw fa tk ps fi ov:Int} (ho:o.op=.store 68 (.tmp p) (.tmp s)) (hp:tv p=.pointer (some ⟨g,0,none⟩)) (hs:tv s=.agg #[.string nm,.slice ga gn gc,.slice wa wn wc,.string ky,.string kd,.int .i64 dp,.int .i64 dn,.int .i64 dw,.slice oa on oc,.slice ia jn jc,.int .i64 fa,.int .i64 tk,.int .i64 ps,.int .i64 fi,.int .i64 ov])
  (hg:W.heap[g]?=some (.cells cs 68 (0,0))) (hc:cs.size=15):(execOp (Tryst2.evOf tv) o).run Tryz.prog W=.ok .skip (Yq W g 0 [.string nm,.slice ga gn gc,.slice wa wn wc,.string ky,.string kd,.int .i64 dp,.int .i64 dn,.int .i64 dw,.slice oa on oc,.slice ia jn jc,.int .i64 fa,.int .i64 tk,.int .i64 ps,.int .i64 fi,.int .i64 ov]):=by
 obtain ⟨⟨u0,c0⟩,z0⟩:=qYD hg hc (j:=0) (by decide);obtain ⟨⟨u1,c1⟩,z1⟩:=qYD hg hc (j:=1) (by decide);obtain ⟨⟨u2,c2⟩,z2⟩:=qYD hg hc (j:=2) (by decide);obtain ⟨⟨u3,c3⟩,z3⟩:=qYD hg hc (j:=3) (by decide);obtain ⟨⟨u4,c4⟩,z4⟩:=qYD hg hc (j:=4) (by decide);obtain ⟨⟨u5,c5⟩,z5⟩:=qYD hg hc (j:=5) (by decide);obtain ⟨⟨u6,c6⟩,z6⟩:=qYD hg hc (j:=6) (by decide);obtain ⟨⟨u7,c7⟩,z7⟩:=qYD hg hc (j:=7) (by decide);obtain ⟨⟨u8,c8⟩,z8⟩:=qYD hg hc (j:=8) (by decide);obtain ⟨⟨u9,c9⟩,z9⟩:=qYD hg hc (j:=9) (by decide);obtain ⟨⟨u10,c10⟩,z10⟩:=qYD hg hc (j:=10) (by decide);obtain ⟨⟨u11,c11⟩,z11⟩:=qYD hg hc (j:=11) (by decide);obtain ⟨⟨u12,c12⟩,z12⟩:=qYD hg hc (j:=12) (by decide);obtain ⟨⟨u13,c13⟩,z13⟩:=qYD hg hc (j:=13) (by decide);obtain ⟨⟨u14,c14⟩,z14⟩:=qYD hg hc (j:=14) (by decide);have hlt:=(Array.getElem?_eq_some_iff.1 hg).1;unfold execOp;rw [ho];clear hg hc;go_simp
 first | done | rfl | (simp only [Yq,Nat.zero_add,Nat.reduceAdd])
theorem qYw {tv:Nat->Value} {o:Oper} {p s:Nat} {W:World} {nm ky kd:ByteArray} {ga wa oa ia:Option Addr} {gn gc wn wc on oc jn jc:Nat} {dp dn dw fa tk ps fi ov:Int} (ho:o.op=.store 68 (.tmp p) (.tmp s)) (hs:tv s=.agg #[.string nm,.slice ga gn gc,.slice wa wn wc,.string ky,.string kd,.int .i64 dp,.int .i64 dn,.int .i64 dw,.slice oa on oc,.slice ia jn jc,.int .i64 fa,.int .i64 tk,.int .i64 ps,.int .i64 fi,.int .i64 ov])
  (hb:∃ (g:Nat) (cs:Array Value),tv p=.pointer (some ⟨g,0,none⟩)/\W.heap[g]?=some (.cells cs 68 (0,0))/\cs.size=15) :
  Tryst2.stepV Tryz.prog (fun v w''=>∀ g:Nat,tv p=.pointer (some ⟨g,0,none⟩)->Tryst4.Only g W w''/\w''.heap[g]?=some (.cells (Tryst4.cellsOf (tv s)).toArray 68 (0,0))/\(Tryst4.cellsOf (tv s)).length=15) ((execOp (Tryst2.evOf tv) o).run Tryz.prog W):=by
 obtain ⟨g,cs,hp,hg,hc⟩:=hb;rw [kYE ho hp hs hg hc,Tryst2.stepV_skip];intro g' hg';rw [hp] at hg';simp only [Value.pointer.injEq,Option.some.injEq,Addr.mk.injEq,and_true] at hg';subst hg';have hV:Var W g 68 cs.toList:=hg;have hB:Below g W (Yq W g 0 [.string nm,.slice ga gn gc,.slice wa wn wc,.string ky,.string kd,.int .i64 dp,.int .i64 dn,.int .i64 dw,.slice oa on oc,.slice ia jn jc,.int .i64 fa,.int .i64 tk,.int .i64 ps,.int .i64 fi,.int .i64 ov]):=Qw (Nat.le_refl g) [.string nm,.slice ga gn gc,.slice wa wn wc,.string ky,.string kd,.int .i64 dp,.int .i64 dn,.int .i64 dw,.slice oa on oc,.slice ia jn jc,.int .i64 fa,.int .i64 tk,.int .i64 ps,.int .i64 fi,.int .i64 ov] 0 _ (Below.refl g W);have hp2:=hV.put [.string nm,.slice ga gn gc,.slice wa wn wc,.string ky,.string kd,.int .i64 dp,.int .i64 dn,.int .i64 dw,.slice oa on oc,.slice ia jn jc,.int .i64 fa,.int .i64 tk,.int .i64 ps,.int .i64 fi,.int .i64 ov] (by show 15=_;rw [Array.length_toList,hc]);rw [hs];exact ⟨⟨hB.os,hB.tape,hB.output,Q6 _ _ _,fun b hb=>Qb hb _ _ _⟩,hp2,rfl⟩
theorem qYp {x:SubB} (h:SqX x.q):x.il.length<=1500000:=by
 have h1:(x.il.map InB.p).length<=1500000:=h.2.2.1.1;rw [List.length_map] at h1;exact h1
theorem kYJ {x:SubB} (h:SqX x.q) {z:InB} (hz:z∈x.il):z.l.length<=1500000:=by
 have h1:jYJ (InB.p z):=h.2.2.1.2.2 _ (List.mem_map.2 ⟨z,hz,rfl⟩);have h2:(z.l.map KpB.p).length<=1500000:=h1.2.2.1;rw [List.length_map] at h2;exact h2
theorem kYD (cs:List Value) (T:TypeId) (w:World):Tryst2.Grow w (w.alloc (.cells cs.toArray T))/\∃ g ds,Value.pointer (some ⟨w.heap.size,0,none⟩)=.pointer (some ⟨g,0,none⟩)/\w.heap.size<=g/\(w.alloc (.cells cs.toArray T)).heap[g]?=some (.cells ds T (0,0))/\ds.size=cs.length:=
 ⟨Tryst2.Grow.alloc (Tryst2.Grow.refl _) _,_,cs.toArray,rfl,Nat.le_refl _,by show (w.heap.push _)[w.heap.size]?=_;simp,by simp⟩
theorem qYz (ρ:Operand->Value) (o:Oper) (w:World) (ho:o.op=.alloc 68):(execOp ρ o).run Tryz.prog w=.ok (.value (.pointer (some ⟨w.heap.size,0,none⟩))) (w.alloc (.cells [.string ⟨#[]⟩,.slice none 0 0,.slice none 0 0,.string ⟨#[]⟩,.string ⟨#[]⟩,.int .i64 0,.int .i64 0,.int .i64 0,.slice none 0 0,.slice none 0 0,.int .i64 0,.int .i64 0,.int .i64 0,.int .i64 0,.int .i64 0].toArray 68)):=by
 unfold execOp;rw [ho]
 kernel_rfl
theorem qYU (a b:RtB) (w:World) (h:TwoR w a b) :
  Calls Tryz.prog 15 #[a.agg,b.agg] w fun e w'=>e=.returned (.bool (qYK a b))/\Below w.heap.size w w':=by
 have C1:=Zh (fun W (hb:Below w.heap.size w W)=>qYs a.ta b.ta a.tc b.tc a.tl b.tl h.xa.tn W (h.grow hb).ma.t (h.grow hb).mb.t (fun y hy=>⟨((h.grow hb).ma.tm y hy).1,qYc h.xa.t hy⟩) (fun y hy=>⟨((h.grow hb).mb.tm y hy).1,qYc h.xb.t hy⟩));have C2:=Zh (fun W (hb:Below w.heap.size w W)=>qYn a.la b.la a.lc b.lc a.ll b.ll h.xa.ln W (h.grow hb).ma.l (h.grow hb).mb.l);have C3:=Zh (fun W (hb:Below w.heap.size w W)=>qYa a.ua b.ua a.uc b.uc a.ul b.ul h.xa.un W (h.grow hb).ma.u (h.grow hb).mb.u (fun y hy=>⟨(h.grow hb).ma.um y hy,qYY h.xa.u hy⟩) (fun y hy=>(h.grow hb).mb.um y hy));have C4:=Zh (fun W (hb:Below w.heap.size w W)=>qYa a.ga b.ga a.gc b.gc a.gl b.gl h.xa.gn W (h.grow hb).ma.g (h.grow hb).mb.g (fun y hy=>⟨(h.grow hb).ma.gm y hy,qYY h.xa.g hy⟩) (fun y hy=>(h.grow hb).mb.gm y hy));have HT:=Zh (fun W (hb:Below w.heap.size w W)=>h.grow hb);have hsn:=h.xa.sn;have hdn:=h.xa.dn;clear h;obtain ⟨R,hR⟩:∃ R,qYK a b=R:=⟨_,rfl⟩;rw [hR];unfold qYK at hR;generalize qYC eqTB a.tl b.tl=q1 at C1 hR;generalize qYC eqLB a.ll b.ll=q2 at C2 hR;generalize qYC eqUB a.ul b.ul=q3 at C3 hR;generalize qYC eqUB a.gl b.gl=q4 at C4 hR;unfold RtB.agg;obtain ⟨now1,ta1,tl1,tc1,la1,ll1,lc1,sa1,sl1,sc1,total1,ua1,ul1,uc1,ga1,gl1,gc1,da1,dl1,dc1⟩:=a;obtain ⟨now2,ta2,tl2,tc2,la2,ll2,lc2,sa2,sl2,sc2,total2,ua2,ul2,uc2,ga2,gl2,gc2,da2,dl2,dc2⟩:=b;simp only at C1 C2 C3 C4 hR hsn hdn ⊢;have HR:=Zh hR;clear hR;generalize tl1.length=tn1 at C1 ⊢;generalize tl2.length=tn2 at C1 ⊢;generalize ll1.length=ln1 at C2 ⊢;generalize ll2.length=ln2 at C2 ⊢;generalize ul1.length=un1 at C3 ⊢;generalize ul2.length=un2 at C3 ⊢;generalize gl1.length=gn1 at C4 ⊢;generalize gl2.length=gn2 at C4 ⊢;have V1:=Zh ((Var.new w 28 [.int .i64 now1,.slice ta1 tn1 tc1,.slice la1 ln1 lc1,.slice sa1 sl1.length sc1,.int .i64 total1,.slice ua1 un1 uc1,.slice ga1 gn1 gc1,.slice da1 dl1.length dc1]).grow (Qj (.cells #[.int .i64 now2,.slice ta2 tn2 tc2,.slice la2 ln2 lc2,.slice sa2 sl2.length sc2,.int .i64 total2,.slice ua2 un2 uc2,.slice ga2 gn2 gc2,.slice da2 dl2.length dc2] 28) (.refl _ _)));have V2:=Zh (Var.new (w.alloc (.cells #[.int .i64 now1,.slice ta1 tn1 tc1,.slice la1 ln1 lc1,.slice sa1 sl1.length sc1,.int .i64 total1,.slice ua1 un1 uc1,.slice ga1 gn1 gc1,.slice da1 dl1.length dc1] 28)) 28 [.int .i64 now2,.slice ta2 tn2 tc2,.slice la2 ln2 lc2,.slice sa2 sl2.length sc2,.int .i64 total2,.slice ua2 un2 uc2,.slice ga2 gn2 gc2,.slice da2 dl2.length dc2]);have B0:=Zh (Qj (.cells #[.int .i64 now2,.slice ta2 tn2 tc2,.slice la2 ln2 lc2,.slice sa2 sl2.length sc2,.int .i64 total2,.slice ua2 un2 uc2,.slice ga2 gn2 gc2,.slice da2 dl2.length dc2] 28) (Qj (.cells #[.int .i64 now1,.slice ta1 tn1 tc1,.slice la1 ln1 lc1,.slice sa1 sl1.length sc1,.int .i64 total1,.slice ua1 un1 uc1,.slice ga1 gn1 gc1,.slice da1 dl1.length dc1] 28) (.refl w.heap.size w)));go_enter Tryz.func15,Tryz.ntmps15;go_upto_region 1 with fail
 revert V1 V2 B0;simp only [List.toArray,World.size_alloc];generalize (w.alloc (.cells _ 28)).alloc (.cells _ 28)=Z;intro V1 V2 B0;generalize w.heap.size+1=g2 at V2 ⊢;obtain ⟨x0,x1,x2,x3,x4,x5,x6,x7⟩:=v8 (V1.out);obtain ⟨y0,y1,y2,y3,y4,y5,y6,y7⟩:=v8 (V2.out);have hz1:=V1.out.lt;have hz2:=V2.out.lt
 by_cases h1:now1=now2
 case neg=>
  have HN:Hid (R=false):=Zh (by rw [<- HR.out,decide_eq_false h1];rfl);have b1:(now1==now2)=false:=by simpa using h1
  go_wp2_with fail;go_ret;exact ⟨Qq HN.out.symm,B0.out⟩
 subst h1
 by_cases h2:total1=total2
 case neg=>
  have HN:Hid (R=false):=Zh (by rw [<- HR.out,decide_eq_false h2];simp);have b1:(total1==total2)=false:=by simpa using h2
  go_wp2_with fail;go_ret;exact ⟨Qq HN.out.symm,B0.out⟩
 subst h2;have HR1:Hid ((q1&&(q2&&(q3&&(q4&&(decide (sl1.length=sl2.length)&&(decide (dl1.length=dl2.length)&&((dl1.zip dl2).all (fun x=>eqDd x.1 x.2)&&(sl1.zip sl2).all (fun x=>eqSb x.1 x.2))))))))=R):=Zh (by rw [<- HR.out];simp);clear HR;go_wp2_with fail;refine (C1.out _ B0.out).mono ?_;rintro e w1 ⟨rfl,hb⟩;have B8:=Zh (Qk hb B0.out);have V8:=Zh (V1.out.grow hb);have W8:=Zh (V2.out.grow hb);clear hb B0 V1 V2 x0 x1 x2 x3 x4 x5 x6 x7 y0 y1 y2 y3 y4 y5 y6 y7 hz1 hz2 C1;have B9:=B8;have V9:=V8;have W9:=W8;clear B8 V8 W8;obtain ⟨x0,x1,x2,x3,x4,x5,x6,x7⟩:=v8 (V9.out);obtain ⟨y0,y1,y2,y3,y4,y5,y6,y7⟩:=v8 (W9.out);have hz1:=V9.out.lt;have hz2:=W9.out.lt;cases q1
 case false=>
  go_wp2_with fail;go_ret;exact ⟨Qq (by rw [<- HR1.out];rfl),B9.out⟩
 have HR2:=Zh ((Bool.true_and _).symm.trans HR1.out);clear HR1;go_wp2_with fail;refine (C2.out _ B9.out).mono ?_;rintro e w2 ⟨rfl,hb⟩;have B8:=Zh (Qk hb B9.out);have V8:=Zh (V9.out.grow hb);have W8:=Zh (W9.out.grow hb);clear hb B9 V9 W9 x0 x1 x2 x3 x4 x5 x6 x7 y0 y1 y2 y3 y4 y5 y6 y7 hz1 hz2 C2;have B9:=B8;have V9:=V8;have W9:=W8;clear B8 V8 W8;obtain ⟨x0,x1,x2,x3,x4,x5,x6,x7⟩:=v8 (V9.out);obtain ⟨y0,y1,y2,y3,y4,y5,y6,y7⟩:=v8 (W9.out);have hz1:=V9.out.lt;have hz2:=W9.out.lt;cases q2
 case false=>
  go_wp2_with fail;go_ret;exact ⟨Qq (by rw [<- HR2.out];rfl),B9.out⟩
 have HR3:=Zh ((Bool.true_and _).symm.trans HR2.out);clear HR2;go_wp2_with fail;refine (C3.out _ B9.out).mono ?_;rintro e w3 ⟨rfl,hb⟩;have B8:=Zh (Qk hb B9.out);have V8:=Zh (V9.out.grow hb);have W8:=Zh (W9.out.grow hb);clear hb B9 V9 W9 x0 x1 x2 x3 x4 x5 x6 x7 y0 y1 y2 y3 y4 y5 y6 y7 hz1 hz2 C3;have B9:=B8;have V9:=V8;have W9:=W8;clear B8 V8 W8;obtain ⟨x0,x1,x2,x3,x4,x5,x6,x7⟩:=v8 (V9.out);obtain ⟨y0,y1,y2,y3,y4,y5,y6,y7⟩:=v8 (W9.out);have hz1:=V9.out.lt;have hz2:=W9.out.lt;cases q3
 case false=>
  go_wp2_with fail;go_ret;exact ⟨Qq (by rw [<- HR3.out];rfl),B9.out⟩
 have HR4:=Zh ((Bool.true_and _).symm.trans HR3.out);clear HR3;go_wp2_with fail;refine (C4.out _ B9.out).mono ?_;rintro e w4 ⟨rfl,hb⟩;have B4:=Zh (Qk hb B9.out);have V4:=Zh (V9.out.grow hb);have W4:=Zh (W9.out.grow hb);clear hb B9 V9 W9 x0 x1 x2 x3 x4 x5 x6 x7 y0 y1 y2 y3 y4 y5 y6 y7 hz1 hz2 C4;obtain ⟨x0,x1,x2,x3,x4,x5,x6,x7⟩:=v8 (V4.out);obtain ⟨y0,y1,y2,y3,y4,y5,y6,y7⟩:=v8 (W4.out);have hz1:=V4.out.lt;have hz2:=W4.out.lt;cases q4
 case false=>
  go_wp2_with fail;go_ret;exact ⟨Qq (by rw [<- HR4.out];rfl),B4.out⟩
 by_cases hs:sl1.length=sl2.length
 case neg=>
  have b1:((sl1.length:Int)==sl2.length)=false:=by simpa using (show ¬ (sl1.length:Int)=sl2.length by omega)
  go_wp2_with fail;go_ret;exact ⟨Qq (by rw [<- HR4.out,decide_eq_false hs];rfl),B4.out⟩
 by_cases hd:dl1.length=dl2.length
 case neg=>
  have b1:((dl1.length:Int)==dl2.length)=false:=by simpa using (show ¬ (dl1.length:Int)=dl2.length by omega)
  go_wp2_with fail;go_ret;exact ⟨Qq (by rw [<- HR4.out,decide_eq_false hd];simp),B4.out⟩
 have HR5:Hid (((dl1.zip dl2).all (fun x=>eqDd x.1 x.2)&&(sl1.zip sl2).all (fun x=>eqSb x.1 x.2))=R):=Zh (by rw [<- HR4.out,decide_eq_true hs,decide_eq_true hd];simp);have HZD:=Zh (qYJ hd);have HZS:=Zh (qYJ hs);have HS:=Zh hs;have HD:=Zh hd;clear HR4;rw [<- hs,<- hd] at W4 ⊢;clear hs hd;obtain ⟨D,hDD⟩:∃ D,(dl1.zip dl2).all (fun x=>eqDd x.1 x.2)=D:=⟨_,rfl⟩;rw [hDD] at HR5;have HDD:Hid (D=((dl1.zip dl2).drop 0).all (fun x=>eqDd x.1 x.2)):=Zh (by rw [List.drop_zero,hDD]);clear hDD y0 y1 y2 y3 y4 y5 y6 y7;obtain ⟨y0,y1,y2,y3,y4,y5,y6,y7⟩:=v8 (W4.out);go_wp2_with fail;clear x0 x1 x2 x3 x4 x5 x6 x7 y0 y1 y2 y3 y4 y5 y6 y7 hz1 hz2;go_loopw [5] (fun i wr=>AllR D (fun x:DeadB × DeadB=>eqDd x.1 x.2) (dl1.zip dl2) w4 i wr) (fun i _=>dl1.length - (intOf i).toNat)
 case atStart=>exact ⟨0,by omega,rfl,HDD,.refl _ _,by omega⟩
 case round=>
  clear HDD;obtain ⟨k,hk,rfl,HP,HW,hz⟩:=hrel;obtain ⟨wo,rfl⟩:∃ wo,wo=wr:=⟨_,rfl⟩;rw [HZD.out] at hk;have V5:=Zh (V4.out.grow HW.out);have W5:=Zh (W4.out.grow HW.out);have B5:=Zh (Qk HW.out B4.out);obtain ⟨x0,x1,x2,x3,x4,x5,x6,x7⟩:=v8 (V5.out);obtain ⟨y0,y1,y2,y3,y4,y5,y6,y7⟩:=v8 (W5.out);have hz1:=V5.out.lt;have hz2:=W5.out.lt
  by_cases hlt:k < dl1.length
  ·
   have hlt2:k < dl2.length:=by have:=HD.out;omega
   have hst:=zQJ (by rw [HZD.out];exact hlt) HP.out;rw [List.getElem_zip] at hst;simp only at hst;have hr1:=(HT.out _ B5.out).ma.d;have hr2:=(HT.out _ B5.out).mb.d;simp only at hr1 hr2;obtain ⟨b1,o1,ha1,hb1⟩:=Row.head hr1 (i:=k) (by simpa using hlt);obtain ⟨b2,o2,ha2,hb2⟩:=Row.head hr2 (i:=k) (by simpa using hlt2);subst ha1 ha2;have hat1:=(Row.at hr1 (i:=k) (by simpa using hlt)).2;have hat2:=(Row.at hr2 (i:=k) (by simpa using hlt2)).2;rw [List.getElem_map] at hat1 hat2;generalize dl1[k]=y at hat1 hst;generalize dl2[k]=z at hat2 hst;obtain ⟨s1,v1⟩:=y;obtain ⟨s2,v2⟩:=z;have f0:wo.cell? ⟨b1,o1+k*2,none⟩=some (.string s1):=hat1 0 (by decide);have f1:wo.cell? ⟨b1,o1+k*2+1,none⟩=some (.string v1):=hat1 1 (by decide);have e0:wo.cell? ⟨b2,o2+k*2,none⟩=some (.string s2):=hat2 0 (by decide);have e1:wo.cell? ⟨b2,o2+k*2+1,none⟩=some (.string v2):=hat2 1 (by decide);obtain ⟨q,hq⟩:∃ q,(decide (s1.toList=s2.toList)&&decide (v1.toList=v2.toList))=q:=⟨_,rfl⟩
   have hst2:D=(q&&((dl1.zip dl2).drop (k+1)).all (fun x=>eqDd x.1 x.2)):=by
    rw [hst,<- hq];simp only [qYP];rfl
   have HST:=Zh hst2;clear hst hst2 HP hat1 hat2 hr1 hr2;go_upto_region 6 with fail
   refine Tryst2.wp_region_grows [.is (.pointer (some ⟨w.heap.size,7,none⟩)),.is (.slice (some ⟨b1,o1,none⟩) dl1.length dc1),.is (.int .i64 (k:Int)),.is (.pointer (some ⟨b1,o1+k*2,none⟩)),.is (.agg #[.string s1,.string v1]),.is (.pointer (some ⟨g2,7,none⟩)),.is (.slice (some ⟨b2,o2,none⟩) dl1.length dc2),.is (.int .i64 (k:Int)),.is (.pointer (some ⟨b2,o2+k*2,none⟩)),.is (.agg #[.string s2,.string v2]),.is (.bool (!q))] (by kernel_rfl) (by kernel_rfl) ?obl ?fin
   case obl=>
    simp only [YA,YL,YO,YR,Op.operands,Call.operands]
    repeat' apply And.intro
    any_goals trivial
    all_goals (intro tv w' hg hold hd;(try simp at hold);obtain ⟨hcg,hfg,hsg⟩:=YG hg)
    all_goals first | (go_simp;done) | (go_simp;rw [if_neg (by omega)];exact ⟨.refl _,rfl⟩) | (obtain ⟨⟨g,hvg,hgg,hcell⟩,_⟩:=hd;have hcell0:=hcell 0 (by decide);simp at hcell0;go_simp;done) | (go_simp;subst hq;(repeat' split);all_goals (first | (rw [Tryst2.stepV_value];exact ⟨Tryst2.Grow.refl _,by simp [*]⟩) | rfl))
   case fin=>
    intro tv w' hg hR;simp only [YF,YL,YR] at hR;obtain ⟨hcg,hfg,hsg⟩:=YG hg;simp only [YP,YL,Act.put,hR];have HW9:=Zh (Tryst2.Grow.below hg HW.out);clear hg hR hcg hfg hsg x0 x1 x2 x3 x4 x5 x6 x7 y0 y1 y2 y3 y4 y5 y6 y7 hz1 hz2;cases q with
    | false=>
     have HNX:Hid (R=false):=Zh (by rw [<- HR5.out,HST.out];rfl);go_wp2_with fail;go_ret;exact ⟨Qq HNX.out.symm,Qk HW9.out B4.out⟩
    | true=>
     have HNX:=Zh (HST.out.trans (Bool.true_and _));go_wp2_with fail;refine ⟨?rel,?measure⟩
     case rel=>exact ⟨k+1,by rw [HZD.out];omega,by go_num,HNX,HW9.out,HW9.out.size⟩
     case measure=>simp [intOf]<;>omega
  ·
   have hDt:=vQC (by rw [HZD.out];omega) HP.out;have HR6:Hid ((sl1.zip sl2).all (fun x=>eqSb x.1 x.2)=R):=Zh (by rw [<- HR5.out,hDt];rfl);clear HP hDt HR5 V4 W4 B4 HW hz;have HSS:Hid (R=((sl1.zip sl2).drop 0).all (fun x=>eqSb x.1 x.2)):=Zh (by rw [List.drop_zero,HR6.out]);clear HR6;go_wp2_with fail;clear x0 x1 x2 x3 x4 x5 x6 x7 y0 y1 y2 y3 y4 y5 y6 y7 hz1 hz2;go_loopw [6] (fun i wr=>AllR R (fun x:SubB × SubB=>eqSb x.1 x.2) (sl1.zip sl2) wo i wr) (fun i _=>sl1.length - (intOf i).toNat)
   case atStart=>exact ⟨0,by omega,rfl,HSS,.refl _ _,by omega⟩
   case round=>
    clear HSS;obtain ⟨k2,hk2,rfl,HP,HW,hz⟩:=hrel;obtain ⟨wy,rfl⟩:∃ wy,wy=wr:=⟨_,rfl⟩;rw [HZS.out] at hk2;have V6:=Zh (V5.out.grow HW.out);have W6:=Zh (W5.out.grow HW.out);have B6:=Zh (Qk HW.out B5.out);obtain ⟨x0,x1,x2,x3,x4,x5,x6,x7⟩:=v8 (V6.out);obtain ⟨y0,y1,y2,y3,y4,y5,y6,y7⟩:=v8 (W6.out);have hz1:=V6.out.lt;have hz2:=W6.out.lt
    by_cases hlt2:k2 < sl1.length
    ·
     have hlt3:k2 < sl2.length:=by have:=HS.out;omega
     have hst:=zQJ (by rw [HZS.out];exact hlt2) HP.out;rw [List.getElem_zip] at hst;simp only at hst;have hT:=HT.out _ B6.out;have hr1:=hT.ma.s;have hr2:=hT.mb.s;have hm1:=hT.ma.sm _ (List.getElem_mem hlt2);have hm2:=hT.mb.sm _ (List.getElem_mem hlt3);have hq1:=hT.xa.s _ (List.mem_map.2 ⟨_,List.getElem_mem hlt2,rfl⟩);have hq2:=hT.xb.s _ (List.mem_map.2 ⟨_,List.getElem_mem hlt3,rfl⟩);simp only at hr1 hr2 hm1 hm2 hq1 hq2;obtain ⟨b1,o1,ha1,hb1⟩:=Row.head hr1 (i:=k2) (by simpa using hlt2);obtain ⟨b2,o2,ha2,hb2⟩:=Row.head hr2 (i:=k2) (by simpa using hlt3);subst ha1 ha2;have hat1:=(Row.at hr1 (i:=k2) (by simpa using hlt2)).2;have hat2:=(Row.at hr2 (i:=k2) (by simpa using hlt3)).2;rw [List.getElem_map] at hat1 hat2;rw [eqSb] at hst;generalize sl1[k2]=x at hat1 hst hm1 hq1;generalize sl2[k2]=y at hat2 hst hm2 hq2;have K1:=Zh (fun W (hb:Below wy.heap.size wy W)=>qYX x.d y.d W (hm1.d.grow hb) (hm2.d.grow hb));have K2:=Zh (fun W (hb:Below wy.heap.size wy W)=>kYG x.oa y.oa x.oc y.oc x.ol y.ol hq1.2.1.1 hq2.2.1.1 W (Row.grow hm1.o hb) (Row.grow hm2.o hb));have K3:=Zh (fun W (hb:Below wy.heap.size wy W)=>kY4 x.ia y.ia x.ic y.ic x.il y.il (qYp hq1) W (Row.grow hm1.i hb) (Row.grow hm2.i hb) (fun z hz=>⟨Row.grow (hm1.k z hz).1 hb,kYJ hq1 hz⟩) (fun z hz=>Row.grow (hm2.k z hz).1 hb));generalize vJc x.d y.d=q1 at hst K1;generalize qYL x.ol y.ol=q2 at hst K2;generalize qYC eqIn x.il y.il=q3 at hst K3;have HST:=Zh hst;clear hst HP hr1 hr2 hm1 hm2 hq1 hq2 hT;obtain ⟨⟨nm1,ga1,gl1,gc1,wa1,wl1,wc1,ky1,⟨kd1,dp1,dn1,dw1⟩⟩,oa1,ol1,oc1,ia1,il1,ic1,fa1,tk1,ps1,fi1,ov1⟩:=x;obtain ⟨⟨nm2,ga2,gl2,gc2,wa2,wl2,wc2,ky2,⟨kd2,dp2,dn2,dw2⟩⟩,oa2,ol2,oc2,ia2,il2,ic2,fa2,tk2,ps2,fi2,ov2⟩:=y;unfold DB.agg at K1;simp only at K1 K2 K3 HST;have f0:wy.cell? ⟨b1,o1+k2*15,none⟩=some (.string nm1):=hat1 0 (by decide);have f1:wy.cell? ⟨b1,o1+k2*15+1,none⟩=some (.slice ga1 gl1.length gc1):=hat1 1 (by decide);have f2:wy.cell? ⟨b1,o1+k2*15+2,none⟩=some (.slice wa1 wl1.length wc1):=hat1 2 (by decide);have f3:wy.cell? ⟨b1,o1+k2*15+3,none⟩=some (.string ky1):=hat1 3 (by decide);have f4:wy.cell? ⟨b1,o1+k2*15+4,none⟩=some (.string kd1):=hat1 4 (by decide);have f5:wy.cell? ⟨b1,o1+k2*15+5,none⟩=some (.int .i64 dp1):=hat1 5 (by decide);have f6:wy.cell? ⟨b1,o1+k2*15+6,none⟩=some (.int .i64 dn1):=hat1 6 (by decide);have f7:wy.cell? ⟨b1,o1+k2*15+7,none⟩=some (.int .i64 dw1):=hat1 7 (by decide);have f8:wy.cell? ⟨b1,o1+k2*15+8,none⟩=some (.slice oa1 ol1.length oc1):=hat1 8 (by decide);have f9:wy.cell? ⟨b1,o1+k2*15+9,none⟩=some (.slice ia1 il1.length ic1):=hat1 9 (by decide);have f10:wy.cell? ⟨b1,o1+k2*15+10,none⟩=some (.int .i64 fa1):=hat1 10 (by decide);have f11:wy.cell? ⟨b1,o1+k2*15+11,none⟩=some (.int .i64 tk1):=hat1 11 (by decide);have f12:wy.cell? ⟨b1,o1+k2*15+12,none⟩=some (.int .i64 ps1):=hat1 12 (by decide);have f13:wy.cell? ⟨b1,o1+k2*15+13,none⟩=some (.int .i64 fi1):=hat1 13 (by decide);have f14:wy.cell? ⟨b1,o1+k2*15+14,none⟩=some (.int .i64 ov1):=hat1 14 (by decide);have m0:wy.cell? ⟨b2,o2+k2*15,none⟩=some (.string nm2):=hat2 0 (by decide);have m1:wy.cell? ⟨b2,o2+k2*15+1,none⟩=some (.slice ga2 gl2.length gc2):=hat2 1 (by decide);have m2:wy.cell? ⟨b2,o2+k2*15+2,none⟩=some (.slice wa2 wl2.length wc2):=hat2 2 (by decide);have m3:wy.cell? ⟨b2,o2+k2*15+3,none⟩=some (.string ky2):=hat2 3 (by decide);have m4:wy.cell? ⟨b2,o2+k2*15+4,none⟩=some (.string kd2):=hat2 4 (by decide);have m5:wy.cell? ⟨b2,o2+k2*15+5,none⟩=some (.int .i64 dp2):=hat2 5 (by decide);have m6:wy.cell? ⟨b2,o2+k2*15+6,none⟩=some (.int .i64 dn2):=hat2 6 (by decide);have m7:wy.cell? ⟨b2,o2+k2*15+7,none⟩=some (.int .i64 dw2):=hat2 7 (by decide);have m8:wy.cell? ⟨b2,o2+k2*15+8,none⟩=some (.slice oa2 ol2.length oc2):=hat2 8 (by decide);have m9:wy.cell? ⟨b2,o2+k2*15+9,none⟩=some (.slice ia2 il2.length ic2):=hat2 9 (by decide);have m10:wy.cell? ⟨b2,o2+k2*15+10,none⟩=some (.int .i64 fa2):=hat2 10 (by decide)
     have m11:wy.cell? ⟨b2,o2+k2*15+11,none⟩=some (.int .i64 tk2):=hat2 11 (by decide);have m12:wy.cell? ⟨b2,o2+k2*15+12,none⟩=some (.int .i64 ps2):=hat2 12 (by decide);have m13:wy.cell? ⟨b2,o2+k2*15+13,none⟩=some (.int .i64 fi2):=hat2 13 (by decide);have m14:wy.cell? ⟨b2,o2+k2*15+14,none⟩=some (.int .i64 ov2):=hat2 14 (by decide);generalize gl1.length=gn1 at f1 K1;generalize wl1.length=wn1 at f2 K1;generalize ol1.length=on1 at f8 K2;generalize il1.length=in1 at f9 K3;generalize gl2.length=gn2 at m1 K1;generalize wl2.length=wn2 at m2 K1;generalize ol2.length=on2 at m8 K2;generalize il2.length=in2 at m9 K3;clear hat1 hat2;go_upto_region 11 with fail
     refine Tryst4.wp_region_owns [.is (.pointer (some ⟨w.heap.size,3,none⟩)),.is (.slice (some ⟨b1,o1,none⟩) sl1.length sc1),.is (.int .i64 (k2:Int)),.is (.pointer (some ⟨b1,o1+k2*15,none⟩)),.is (.agg #[.string nm1,.slice ga1 gn1 gc1,.slice wa1 wn1 wc1,.string ky1,.string kd1,.int .i64 dp1,.int .i64 dn1,.int .i64 dw1,.slice oa1 on1 oc1,.slice ia1 in1 ic1,.int .i64 fa1,.int .i64 tk1,.int .i64 ps1,.int .i64 fi1,.int .i64 ov1]),.is (.pointer (some ⟨g2,3,none⟩)),.is (.slice (some ⟨b2,o2,none⟩) sl1.length sc2),.is (.int .i64 (k2:Int)),.is (.pointer (some ⟨b2,o2+k2*15,none⟩)),.is (.agg #[.string nm2,.slice ga2 gn2 gc2,.slice wa2 wn2 wc2,.string ky2,.string kd2,.int .i64 dp2,.int .i64 dn2,.int .i64 dw2,.slice oa2 on2 oc2,.slice ia2 in2 ic2,.int .i64 fa2,.int .i64 tk2,.int .i64 ps2,.int .i64 fi2,.int .i64 ov2]),.box 68 15,.box 68 15,.put 10 4 68 15,.put 11 9 68 15] (by kernel_rfl) (by kernel_rfl) (by kernel_rfl) ?obl ?fin
     case obl=>
      simp only [Tryst4.AllObl,Tryst4.Obl,Tryst4.depsS,Tryst4.Rsp.R,Tryst4.Rsp.made,Tryst4.val,YL,YO,Op.operands,Call.operands]
      repeat' apply And.intro
      any_goals trivial
      all_goals (intro tv lo hi w' hg hold hd;(try simp at hold);obtain ⟨hcg,hfg,hsg⟩:=YG hg)
      all_goals first | (go_simp;done) | (rw [qYz _ _ _ rfl,Tryst2.stepV_value];exact kYD _ _ _) | (obtain ⟨⟨g,cs,q1,-,-,q4,q5⟩,q6,-⟩:=hd;exact qYw rfl q6 ⟨g,cs,q1,q4,q5⟩)
     case fin=>
      intro tv w' lo hi hg hR hL hT;simp only [Tryst4.allT,Tryst4.Rsp.R,Tryst4.val,Nat.reduceAdd,YL,YO] at hR;simp only [YL,Nat.reduceAdd] at hL hT;obtain ⟨hcg,hfg,hsg⟩:=YG hg;simp only [YP,YL,Act.put,hR];obtain ⟨-,-,-,-,h4,-,-,-,-,h9,⟨g3,cs3,e3,l3,u3,-,-⟩,⟨g6,cs6,e6,l6,u6,-,-⟩,⟨g3',e3',-,-,k3⟩,⟨g6',e6',-,-,k6⟩,-⟩:=hR;rw [e3] at e3';rw [e6] at e6';simp only [Value.pointer.injEq,Option.some.injEq,Addr.mk.injEq,and_true] at e3' e6';subst e3' e6';simp only [e3,e6];rw [h4] at k3;rw [h9] at k6;have VX:=Zh (show Var w' g3 68 [.string nm1,.slice ga1 gn1 gc1,.slice wa1 wn1 wc1,.string ky1,.string kd1,.int .i64 dp1,.int .i64 dn1,.int .i64 dw1,.slice oa1 on1 oc1,.slice ia1 in1 ic1,.int .i64 fa1,.int .i64 tk1,.int .i64 ps1,.int .i64 fi1,.int .i64 ov1] from k3);have VY:=Zh (show Var w' g6 68 [.string nm2,.slice ga2 gn2 gc2,.slice wa2 wn2 wc2,.string ky2,.string kd2,.int .i64 dp2,.int .i64 dn2,.int .i64 dw2,.slice oa2 on2 oc2,.slice ia2 in2 ic2,.int .i64 fa2,.int .i64 tk2,.int .i64 ps2,.int .i64 fi2,.int .i64 ov2] from k6);have H7:=Zh (Tryst2.Grow.below hg (.refl wy.heap.size wy));have HW7:=Zh (Tryst2.Grow.below hg HW.out);clear hL hT e3 e6 k3 k6 l3 u3 l6 u6 h4 h9 hg hcg hfg hsg x0 x1 x2 x3 x4 x5 x6 x7 y0 y1 y2 y3 y4 y5 y6 y7 hz1 hz2 f0 f1 f2 f3 f4 f5 f6 f7 f8 f9 f10 f11 f12 f13 f14 m0 m1 m2 m3 m4 m5 m6 m7 m8 m9 m10 m11 m12 m13 m14 V6 W6 B6 HW hz;obtain ⟨s0,s1,s2,s3,s4,s5,s6,s7,s8,s9,s10,s11,s12,s13,s14⟩:=v15 (VX.out);obtain ⟨t0,t1,t2,t3,t4,t5,t6,t7,t8,t9,t10,t11,t12,t13,t14⟩:=v15 (VY.out);have hx7:=VX.out.lt;have hy7:=VY.out.lt;go_wp2_with fail;refine (K1.out _ H7.out).mono ?_;rintro e w8 ⟨rfl,hb8⟩;have H8:=Zh (Qk hb8 H7.out);have HW8:=Zh (Qk hb8 HW7.out);have VX8:=Zh (VX.out.grow hb8);have VY8:=Zh (VY.out.grow hb8);clear hb8 H7 HW7 VX VY s0 s1 s2 s3 s4 s5 s6 s7 s8 s9 s10 s11 s12 s13 s14 t0 t1 t2 t3 t4 t5 t6 t7 t8 t9 t10 t11 t12 t13 t14 hx7 hy7 K1;have H7:=H8;have HW7:=HW8;have VX:=VX8;have VY:=VY8;clear H8 HW8 VX8 VY8;obtain ⟨s0,s1,s2,s3,s4,s5,s6,s7,s8,s9,s10,s11,s12,s13,s14⟩:=v15 (VX.out);obtain ⟨t0,t1,t2,t3,t4,t5,t6,t7,t8,t9,t10,t11,t12,t13,t14⟩:=v15 (VY.out);have hx7:=VX.out.lt;have hy7:=VY.out.lt;cases q1
      case false=>
       go_wp2_with fail;go_ret;exact ⟨Qq (by rw [HST.out];simp),Qk HW7.out B5.out⟩
      go_wp2_with fail;refine (K2.out _ H7.out).mono ?_;rintro e w8 ⟨rfl,hb8⟩;have H8:=Zh (Qk hb8 H7.out);have HW8:=Zh (Qk hb8 HW7.out);have VX8:=Zh (VX.out.grow hb8);have VY8:=Zh (VY.out.grow hb8);clear hb8 H7 HW7 VX VY s0 s1 s2 s3 s4 s5 s6 s7 s8 s9 s10 s11 s12 s13 s14 t0 t1 t2 t3 t4 t5 t6 t7 t8 t9 t10 t11 t12 t13 t14 hx7 hy7 K2;have H7:=H8;have HW7:=HW8;have VX:=VX8;have VY:=VY8;clear H8 HW8 VX8 VY8;obtain ⟨s0,s1,s2,s3,s4,s5,s6,s7,s8,s9,s10,s11,s12,s13,s14⟩:=v15 (VX.out);obtain ⟨t0,t1,t2,t3,t4,t5,t6,t7,t8,t9,t10,t11,t12,t13,t14⟩:=v15 (VY.out);have hx7:=VX.out.lt;have hy7:=VY.out.lt;cases q2
      case false=>
       go_wp2_with fail;go_ret;exact ⟨Qq (by rw [HST.out];simp),Qk HW7.out B5.out⟩
      go_wp2_with fail;refine (K3.out _ H7.out).mono ?_;rintro e w8 ⟨rfl,hb8⟩;have H8:=Zh (Qk hb8 H7.out);have HW8:=Zh (Qk hb8 HW7.out);have VX8:=Zh (VX.out.grow hb8);have VY8:=Zh (VY.out.grow hb8);clear hb8 H7 HW7 VX VY s0 s1 s2 s3 s4 s5 s6 s7 s8 s9 s10 s11 s12 s13 s14 t0 t1 t2 t3 t4 t5 t6 t7 t8 t9 t10 t11 t12 t13 t14 hx7 hy7 K3;have H7:=H8;have HW7:=HW8;have VX:=VX8;have VY:=VY8;clear H8 HW8 VX8 VY8;obtain ⟨s0,s1,s2,s3,s4,s5,s6,s7,s8,s9,s10,s11,s12,s13,s14⟩:=v15 (VX.out);obtain ⟨t0,t1,t2,t3,t4,t5,t6,t7,t8,t9,t10,t11,t12,t13,t14⟩:=v15 (VY.out);have hx7:=VX.out.lt;have hy7:=VY.out.lt;cases q3
      case false=>
       go_wp2_with fail;go_ret;exact ⟨Qq (by rw [HST.out];simp),Qk HW7.out B5.out⟩
      by_cases h9:fa1=fa2
      case neg=>
       have b9:(fa1==fa2)=false:=by simpa using h9
       go_wp2_with fail;go_ret;exact ⟨Qq (by rw [HST.out,decide_eq_false h9];simp),Qk HW7.out B5.out⟩
      subst h9
      by_cases h9:tk1=tk2
      case neg=>
       have b9:(tk1==tk2)=false:=by simpa using h9
       go_wp2_with fail;go_ret;exact ⟨Qq (by rw [HST.out,decide_eq_false h9];simp),Qk HW7.out B5.out⟩
      subst h9
      by_cases h9:ps1=ps2
      case neg=>
       have b9:(ps1==ps2)=false:=by simpa using h9
       go_wp2_with fail;go_ret;exact ⟨Qq (by rw [HST.out,decide_eq_false h9];simp),Qk HW7.out B5.out⟩
      subst h9
      by_cases h9:fi1=fi2
      case neg=>
       have b9:(fi1==fi2)=false:=by simpa using h9
       go_wp2_with fail;go_ret;exact ⟨Qq (by rw [HST.out,decide_eq_false h9];simp),Qk HW7.out B5.out⟩
      subst h9
      by_cases h9:ov1=ov2
      case neg=>
       have b9:(ov1==ov2)=false:=by simpa using h9
       go_wp2_with fail;go_ret;exact ⟨Qq (by rw [HST.out,decide_eq_false h9];simp),Qk HW7.out B5.out⟩
      subst h9;have HNX:Hid (R=((sl1.zip sl2).drop (k2+1)).all (fun x=>eqSb x.1 x.2)):=Zh (by rw [HST.out];simp);clear HST;go_wp2_with fail;refine ⟨?rel,?measure⟩
      case rel=>exact ⟨k2+1,by rw [HZS.out];omega,by go_num,HNX,HW7.out,HW7.out.size⟩
      case measure=>simp [intOf]<;>omega
    · have HRt:=Zh (vQC (by rw [HZS.out];omega) HP.out);go_wp2_with fail;go_ret;exact ⟨Qq HRt.out.symm,Qk HW.out B5.out⟩
