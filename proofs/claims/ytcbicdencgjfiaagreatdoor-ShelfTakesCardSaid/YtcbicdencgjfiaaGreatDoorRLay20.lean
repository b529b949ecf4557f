import Derived.Test.YtcbicdencgjfiaaGreatDoorRSub20
set_option linter.all false
set_option maxHeartbeats 16000000
set_option maxRecDepth 20000
namespace Go.Proofs.YtcbicdencgjfiaaGreatDoor
open Go Go.RowKit Tryst
theorem kYm (r:RtB) (hX:RtX r) (hm:∀ y∈r.sl,(∀ p∈y.d.wl,mayP p.pr=true)/\(defL y.d.dp).length<=1500000) (hlen:(rtL (RtB.p r)).length<=1000000000) (w:World) (hW:RtW w r) :
  Calls Tryz.prog 14 #[r.agg] w fun e w'=>e=.returned (.string ⟨(rtL (RtB.p r)).toArray⟩)/\Below w.heap.size w w':=by
 have HFT:=Zh (fun W (hb:Below w.heap.size w W)=>(show Row W r.ta 3 (r.tl.map TB.cells) from Row.grow hW.t hb));have HMT:=Zh (fun (k:Nat) (hk:k < r.tl.length) W (hb:Below w.heap.size w W)=>(show Strs W r.tl[k].la r.tl[k].log from zQ9.2 (Row.grow (hW.tm _ (List.getElem_mem hk)).1 hb)));have HFL:=Zh (fun W (hb:Below w.heap.size w W)=>(show qQF W r.la r.ll from Row.grow hW.l hb));have HFS:=Zh (fun W (hb:Below w.heap.size w W)=>(show Row W r.sa 15 (r.sl.map SubB.cells) from Row.grow hW.s hb));have HFD:=Zh (fun W (hb:Below w.heap.size w W)=>(show Row W r.da 2 (r.dl.map DeadB.cells) from Row.grow hW.d hb));have HSM:=Zh (fun (k:Nat) (hk:k < r.sl.length) (hl:(subL (SubB.p r.sl[k])).length<=1000000000) W (hb:Below w.heap.size w W)=>zYs r.sl[k] (hX.s _ (List.mem_map.2 ⟨_,List.getElem_mem hk,rfl⟩)) (hm _ (List.getElem_mem hk)).1 (hm _ (List.getElem_mem hk)).2 hl W ((hW.sm _ (List.getElem_mem hk)).grow hb))
 have hsp:rtL (RtB.p r)=numL r.now++((pack r.tl.length++(r.tl.map TB.p).flatMap topL)++((pack r.ll.length++(r.ll.map LB.p).flatMap kQ5)++((pack r.sl.length++(r.sl.map SubB.p).flatMap subL)++(numL r.total++(Qf outL (r.ul.map UB.p)++(Qf outL (r.gl.map UB.p)++(pack r.dl.length++(r.dl.map DeadB.p).flatMap qQy))))))):=by
  unfold rtL RtB.p;simp only [Qf,List.length_map]
 rw [hsp] at hlen ⊢;clear hsp;simp only [List.length_append] at hlen;have EU:=Zh (fun W (hb:Below w.heap.size w W)=>kYu r.ua r.uc r.ul hX.un (fun y hy=>hX.u _ (List.mem_map.2 ⟨y,hy,rfl⟩)) (by omega) W (Row.grow hW.u hb) (fun y hy=>Row.grow (hW.um y hy) hb));have EG:=Zh (fun W (hb:Below w.heap.size w W)=>kYu r.ga r.gc r.gl hX.gn (fun y hy=>hX.g _ (List.mem_map.2 ⟨y,hy,rfl⟩)) (by omega) W (Row.grow hW.g hb) (fun y hy=>Row.grow (hW.gm y hy) hb));have XT:=Zh (fun (k:Nat) (hk:k < r.tl.length)=>hX.t (TB.p r.tl[k]) (List.mem_map.2 ⟨_,List.getElem_mem hk,rfl⟩));have XL:=Zh (fun (k:Nat) (hk:k < r.ll.length)=>hX.l _ (List.getElem_mem hk));have XD:=Zh (fun (k:Nat) (hk:k < r.dl.length)=>hX.d _ (List.getElem_mem hk));obtain ⟨n0,n1⟩:=hX.now;obtain ⟨n2,n3⟩:=hX.total;have ht:=hX.tn;have hl:=hX.ln;have hs:=hX.sn;have hdn:=hX.dn;have ht1:(r.tl.map TB.p).length=r.tl.length:=List.length_map ..;have hl1:(r.ll.map LB.p).length=r.ll.length:=List.length_map ..;have hs1:(r.sl.map SubB.p).length=r.sl.length:=List.length_map ..;have hd1:(r.dl.map DeadB.p).length=r.dl.length:=List.length_map ..;have HPT:Hid (∀ (k:Nat) (hk:k < r.tl.length) (hp:k < (r.tl.map TB.p).length),(r.tl.map TB.p)[k]=TB.p r.tl[k]):=Zh (fun k hk hp=>List.getElem_map ..);have HPL:Hid (∀ (k:Nat) (hk:k < r.ll.length) (hp:k < (r.ll.map LB.p).length),(r.ll.map LB.p)[k]=LB.p r.ll[k]):=Zh (fun k hk hp=>List.getElem_map ..);have HPS:Hid (∀ (k:Nat) (hk:k < r.sl.length) (hp:k < (r.sl.map SubB.p).length),(r.sl.map SubB.p)[k]=SubB.p r.sl[k]):=Zh (fun k hk hp=>List.getElem_map ..);have HPD:Hid (∀ (k:Nat) (hk:k < r.dl.length) (hp:k < (r.dl.map DeadB.p).length),(r.dl.map DeadB.p)[k]=DeadB.p r.dl[k]):=Zh (fun k hk hp=>List.getElem_map ..);generalize r.tl.map TB.p=tps at ht1 HPT hlen ⊢;generalize r.ll.map LB.p=lps at hl1 HPL hlen ⊢;generalize r.sl.map SubB.p=sps at hs1 HPS hlen ⊢;generalize r.dl.map DeadB.p=dps at hd1 HPD hlen ⊢;clear hX hW hm;obtain ⟨now,ta,tl,tc,la,ll,lc,sa,sl,sc,total,ua,ul,uc,ga,gl,gc,da,dl,dc⟩:=r;unfold RtB.agg;simp only at HFT HMT HFL HFS HFD HSM EU EG XT XL XD n0 n1 n2 n3 ht hl hs hdn ht1 hl1 hs1 hd1 HPT HPL HPS HPD hlen ⊢;generalize Qf outL (ul.map UB.p)=LU at EU hlen ⊢;generalize Qf outL (gl.map UB.p)=LG at EG hlen ⊢;have D1:=Zh (fun W=>Q3 now n0 n1 W);have D2:=Zh (fun W=>Q4 tl.length (by omega) W);have E2:=Zh (fun W=>Q4 ll.length (by omega) W);have E3:=Zh (fun W=>Q4 sl.length (by omega) W);have E4:=Zh (fun W=>Q3 total n2 n3 W);have E5:=Zh (fun W=>Q4 dl.length (by omega) W);obtain ⟨P1,h1⟩:∃ A:ByteArray,⟨(numL now).toArray⟩=A:=⟨_,rfl⟩;have s1:P1.size=(numL now).length:=by rw [<- h1,mk_size]
 rw [h1] at D1;obtain ⟨P2,h2⟩:∃ A:ByteArray,⟨(pack tl.length).toArray⟩=A:=⟨_,rfl⟩;have s2:P2.size=(pack tl.length).length:=by rw [<- h2,mk_size]
 rw [h2] at D2;obtain ⟨O1,hO1⟩:∃ O,numL now++pack tl.length=O:=⟨_,rfl⟩;have HO1:Hid (P1++P2=⟨O1.toArray⟩):=Zh (by rw [<- h1,<- h2,<- hO1];exact Xk (by simp));have HO1':=Zh hO1;have hz1:O1.length+(tps.flatMap topL).length+(pack ll.length).length+(lps.flatMap kQ5).length+(pack sl.length).length+(sps.flatMap subL).length+(numL total).length+LU.length+LG.length+(pack dl.length).length+(dps.flatMap qQy).length<=1000000000:=by rw [<- hO1,List.length_append];omega
 have b1:P1.size<=1000000000:=by omega
 have b2:P2.size<=1000000000:=by omega
 clear h1 h2 hO1 hlen s1 s2 n0 n1 n2 n3;have HS0:=Zh (Var.new w 28 [.int .i64 now,.slice ta tl.length tc,.slice la ll.length lc,.slice sa sl.length sc,.int .i64 total,.slice ua ul.length uc,.slice ga gl.length gc,.slice da dl.length dc]);have HB0:=Zh (Qj (.cells #[.int .i64 now,.slice ta tl.length tc,.slice la ll.length lc,.slice sa sl.length sc,.int .i64 total,.slice ua ul.length uc,.slice ga gl.length gc,.slice da dl.length dc] 28) (.refl w.heap.size w));go_enter Tryz.func14,Tryz.ntmps14;go_upto_region 1 with fail
 revert HS0 HB0;simp only [List.toArray];generalize w.alloc (.cells _ 28)=X;intro HS0 HB0;obtain ⟨s0,s1,s2,s3,s4,s5,s6,s7⟩:=v8 (HS0.out);have hzs:=HS0.out.lt;refine Tryst2.wp_region_text 8 (by kernel_rfl) (by kernel_rfl) ?_
 iterate 8 ((first | refine Tryst2.TW.skip (by rfl) ?_ | (refine' Tryst2.TW.op _ ?_ (by rfl) ?_;rotate_left;focus (intro w' hg;obtain ⟨hcg,hfg,hsg⟩:=YG hg;first | (go_simp;done) | (go_simp;with_reducible rfl) | (go_simp;rw [if_neg (by omega),Tryst2.stepV_value];refine ⟨.refl _,?_⟩;with_reducible rfl) | (go_simp;(first | go_at_call 47 | go_at_call 45 | go_at_call 44 | go_at_call 43 | go_at_call 46 | go_at_call 59 | go_at_call 49 | go_at_call 104);(first | with_reducible refine (D1.out _).mono ?_ | with_reducible refine (D2.out _).mono ?_ | with_reducible refine (D3.out _).mono ?_ | with_reducible refine (D4.out _).mono ?_ | with_reducible refine (D5.out _).mono ?_ | with_reducible refine (D6.out _).mono ?_);rintro e w5 ⟨rfl,hb5⟩;refine ⟨hb5,?_⟩;with_reducible rfl))));simp only [Act.put,List.setIfInBounds_toArray,List.set_cons_zero,List.set_cons_succ])
 intro w' hg;obtain ⟨hcg,hfg,hsg⟩:=YG hg
 try change wpList _ _ _ [] _ _
 have HB1:=Zh (Qk (Tryst2.Grow.below hg (.refl _ _)) HB0.out);have HS1:=Zh (HS0.out.grow (Tryst2.Grow.below hg (.refl _ _)));clear hg hcg hfg hsg D1 D2 HB0 HS0 s0 s1 s2 s3 s4 s5 s6 s7 hzs;go_wp2_with fail;obtain ⟨A1,hA1⟩:∃ A1,P1++P2=A1:=⟨_,rfl⟩;rw [hA1] at HO1 ⊢;clear hA1 b1 b2;go_loopw [3,4] (fun s i wr=>RLR w' topL O1 tps s i wr) (fun _ i _=>tl.length - (intOf i).toNat)
 case atStart=>exact ⟨0,A1,by omega,rfl,rfl,Zh (by rw [List.take_zero,List.flatMap_nil,List.append_nil];exact HO1.out),Zh (.refl _ _)⟩
 case round=>
  clear HO1;obtain ⟨k,A,hk,rfl,rfl,HA,HB⟩:=hrel;obtain ⟨wo,rfl⟩:∃ wo,wo=wr:=⟨_,rfl⟩;have HWW:=Zh (Qk HB.out HB1.out);have HSo:=Zh (HS1.out.grow HB.out);obtain ⟨z0,z1,z2,z3,z4,z5,z6,z7⟩:=v8 (HSo.out);have hzs:=HSo.out.lt
  by_cases hlt:k < tl.length
  ·
   have hlp:k < tps.length:=by omega
   have hrow:=HFT.out wo HWW.out;obtain ⟨b,o,ha,hb⟩:=hrow.head (i:=k) (by simpa using hlt);subst ha;obtain ⟨_,hcell⟩:=hrow.at (i:=k) (by simpa using hlt);simp only [List.getElem_map] at hcell;have g0:=hcell 0 (by decide);have g1:=hcell 1 (by decide);have g2:=hcell 2 (by decide);simp only [TB.cells,List.getElem_cons_zero,List.getElem_cons_succ,Nat.add_zero] at g0 g1 g2;obtain ⟨q1,⟨q2,q3⟩,q4,q5⟩:=XT.out k hlt;have hfl:=jQE topL hlp;have HFN:=Zh (Xy topL hlp);rw [HPT.out k hlt hlp] at hfl HFN;have hfl:((tps.take k).flatMap topL).length+(strL tl[k].name++(numL tl[k].first++Qf strL tl[k].log)).length<=(tps.flatMap topL).length:=hfl;have HFN:Hid ((tps.take (k+1)).flatMap topL=(tps.take k).flatMap topL++(strL tl[k].name++(numL tl[k].first++Qf strL tl[k].log))):=HFN;simp only [List.length_append] at hfl;have sA:A.size=O1.length+((tps.take k).flatMap topL).length:=by rw [HA.out,mk_size,List.length_append]
   have x1:(k:Int) < tl.length:=by omega
   have x2:(0:Int)<=k:=by omega
   have D1:=Zh (fun W=>J2 tl[k].name (by have:tl[k].name.size<=1500000:=q1;omega) W);have D2:=Zh (fun W=>Q3 tl[k].first q2 q3 W);have D3:=Zh (fun W (hb:Below w.heap.size w W)=>kYp tl[k].la tl[k].lc tl[k].log (by omega) (by have:tl[k].log.length<=1500000:=q4;omega) W (HMT.out k hlt W hb));obtain ⟨P1,h1⟩:∃ A:ByteArray,⟨(strL tl[k].name).toArray⟩=A:=⟨_,rfl⟩;have s1:P1.size=(strL tl[k].name).length:=by rw [<- h1,mk_size]
   rw [h1] at D1;obtain ⟨P2,h2⟩:∃ A:ByteArray,⟨(numL tl[k].first).toArray⟩=A:=⟨_,rfl⟩;have s2:P2.size=(numL tl[k].first).length:=by rw [<- h2,mk_size]
   rw [h2] at D2;obtain ⟨P3,h3⟩:∃ A:ByteArray,⟨(Qf strL tl[k].log).toArray⟩=A:=⟨_,rfl⟩;have s3:P3.size=(Qf strL tl[k].log).length:=by rw [<- h3,mk_size]
   rw [h3] at D3;have M3:=D3;have HN:Hid (A++(P1++P2++P3)=⟨(O1++(tps.take (k+1)).flatMap topL).toArray⟩):=Zh (by rw [HA.out,HFN.out,<- h1,<- h2,<- h3];exact Xk (by simp));have b0:A.size<=1000000000:=by omega
   have b3:P1.size<=1000000000:=by omega
   have b4:P2.size<=1000000000:=by omega
   have b5:P3.size<=1000000000:=by omega
   clear h1 h2 h3 HFN HA hfl sA hcell hrow z0 z2 z3 z4 z5 z6 z7 D3 s1 s2 s3;clear q1 q2 q3 q4 q5;go_upto_region 5 with fail
   refine Tryst2.wp_region_text 25 (by kernel_rfl) (by kernel_rfl) ?_
   iterate 25 ((first | refine Tryst2.TW.skip (by rfl) ?_ | (refine' Tryst2.TW.op _ ?_ (by rfl) ?_;rotate_left;focus (intro w' hg;obtain ⟨hcg,hfg,hsg⟩:=YG hg;first | (go_simp;done) | (go_simp;with_reducible rfl) | (go_simp;rw [if_neg (by omega),Tryst2.stepV_value];refine ⟨.refl _,?_⟩;with_reducible rfl) | (go_simp;(first | go_at_call 45 | go_at_call 44 | go_at_call 43 | go_at_call 46 | go_at_call 49);(first | with_reducible refine (D1.out _).mono ?_ | with_reducible refine (D2.out _).mono ?_ | with_reducible refine (M3.out _ (Tryst2.Grow.below hg HWW.out)).mono ?_ | with_reducible refine (M4.out _ (Tryst2.Grow.below hg HWW.out)).mono ?_);rintro e w5 ⟨rfl,hb5⟩;refine ⟨hb5,?_⟩;with_reducible rfl))));simp only [Act.put,List.setIfInBounds_toArray,List.set_cons_zero,List.set_cons_succ])
   intro w' hg;obtain ⟨hcg,hfg,hsg⟩:=YG hg
   try change wpList _ _ _ [] _ _
   have HB2:=Zh (Qk (Tryst2.Grow.below hg (.refl _ _)) HB.out);clear hg hcg hfg hsg;go_wp2_with fail;go_roundw
   case rel=>exact ⟨k+1,_,by omega,by go_num,rfl,HN,HB2⟩
   case measure=>simp [intOf]<;>omega
  ·
   obtain ⟨O2,hO2⟩:∃ O,O1++tps.flatMap topL++pack ll.length=O:=⟨_,rfl⟩;have hl2:O2.length=O1.length+(tps.flatMap topL).length+(pack ll.length).length:=by rw [<- hO2];simp only [List.length_append]
   have hA:A=⟨(O1++tps.flatMap topL).toArray⟩:=by rw [HA.out,List.take_of_length_le (by omega)]
   have sA:A.size=O1.length+(tps.flatMap topL).length:=by rw [hA,mk_size,List.length_append]
   have D2:=E2;obtain ⟨P2,h2⟩:∃ A:ByteArray,⟨(pack ll.length).toArray⟩=A:=⟨_,rfl⟩;have s2:P2.size=(pack ll.length).length:=by rw [<- h2,mk_size]
   rw [h2] at D2;have HO2:Hid (A++P2=⟨O2.toArray⟩):=Zh (by rw [hA,<- h2,<- hO2];exact Xk (by simp));have HO2':=Zh hO2;have b0:A.size<=1000000000:=by omega
   have b3:P2.size<=1000000000:=by omega
   clear h2 hO2 hA HA sA s2 E2 HFT HMT XT HPT;go_wp2_with fail;refine (D2.out _).mono ?_;rintro e w3 ⟨rfl,hb3⟩;have HB3:=Zh (Qk hb3 HWW.out);have HS3:=Zh (HSo.out.grow hb3);clear hb3 D2 HWW HSo HB z0 z1 z2 z3 z4 z5 z6 z7 hzs;go_wp2_with fail;obtain ⟨A2,hA2⟩:∃ A2,A++P2=A2:=⟨_,rfl⟩;rw [hA2] at HO2 ⊢;clear hA2 b0 b3;go_loopw [3,5] (fun s i wr=>RLR w3 kQ5 O2 lps s i wr) (fun _ i _=>ll.length - (intOf i).toNat)
   case atStart=>exact ⟨0,A2,by omega,rfl,rfl,Zh (by rw [List.take_zero,List.flatMap_nil,List.append_nil];exact HO2.out),Zh (.refl _ _)⟩
   case round=>
    clear HO2;obtain ⟨u,B,hu,rfl,rfl,HA,HB⟩:=hrel;obtain ⟨wu,rfl⟩:∃ wu,wu=wr:=⟨_,rfl⟩;have HWW:=Zh (Qk HB.out HB3.out);have HSo:=Zh (HS3.out.grow HB.out);obtain ⟨z0,z1,z2,z3,z4,z5,z6,z7⟩:=v8 (HSo.out);have hzs:=HSo.out.lt
    by_cases hul:u < ll.length
    ·
     have hlp:u < lps.length:=by omega
     have hrow:=HFL.out wu HWW.out;obtain ⟨b,o,ha,hb⟩:=qQF.hd hrow hul;subst ha;obtain ⟨_,g0,g1,g2⟩:=qQF.at hrow hul;obtain ⟨q1,q2,⟨q3,q4⟩⟩:=XL.out u hul;have hfl:=jQE kQ5 hlp;have HFN:=Zh (Xy kQ5 hlp);rw [HPL.out u hul hlp] at hfl HFN;have hfl:((lps.take u).flatMap kQ5).length+(strL ll[u].producer++(pack ll[u].seq++numL ll[u].off)).length<=(lps.flatMap kQ5).length:=hfl;have HFN:Hid ((lps.take (u+1)).flatMap kQ5=(lps.take u).flatMap kQ5++(strL ll[u].producer++(pack ll[u].seq++numL ll[u].off))):=HFN;simp only [List.length_append] at hfl;have sB:B.size=O2.length+((lps.take u).flatMap kQ5).length:=by rw [HA.out,mk_size,List.length_append]
     have x1:(u:Int) < ll.length:=by omega
     have x2:(0:Int)<=u:=by omega
     have D1:=Zh (fun W=>J2 ll[u].producer (by have:ll[u].producer.size<=1500000:=q1;omega) W);have D2:=Zh (fun W=>zYT ll[u].seq q2 W);have D3:=Zh (fun W=>Q3 ll[u].off q3 q4 W);obtain ⟨P1,h1⟩:∃ A:ByteArray,⟨(strL ll[u].producer).toArray⟩=A:=⟨_,rfl⟩;have s1:P1.size=(strL ll[u].producer).length:=by rw [<- h1,mk_size]
     rw [h1] at D1;obtain ⟨P2,h2⟩:∃ A:ByteArray,⟨(pack ll[u].seq).toArray⟩=A:=⟨_,rfl⟩;have s2:P2.size=(pack ll[u].seq).length:=by rw [<- h2,mk_size]
     rw [h2] at D2;obtain ⟨P3,h3⟩:∃ A:ByteArray,⟨(numL ll[u].off).toArray⟩=A:=⟨_,rfl⟩;have s3:P3.size=(numL ll[u].off).length:=by rw [<- h3,mk_size]
     rw [h3] at D3;have HN:Hid (B++(P1++P2++P3)=⟨(O2++(lps.take (u+1)).flatMap kQ5).toArray⟩):=Zh (by rw [HA.out,HFN.out,<- h1,<- h2,<- h3];exact Xk (by simp));have b0:B.size<=1000000000:=by omega
     have b3:P1.size<=1000000000:=by omega
     have b4:P2.size<=1000000000:=by omega
     have b5:P3.size<=1000000000:=by omega
     clear h1 h2 h3 HFN HA hfl sB hrow z0 z1 z3 z4 z5 z6 z7 s1 s2 s3 q1 q2 q3 q4;go_upto_region 10 with fail
     refine Tryst2.wp_region_text 25 (by kernel_rfl) (by kernel_rfl) ?_
     iterate 25 ((first | refine Tryst2.TW.skip (by rfl) ?_ | (refine' Tryst2.TW.op _ ?_ (by rfl) ?_;rotate_left;focus (intro w' hg;obtain ⟨hcg,hfg,hsg⟩:=YG hg;first | (go_simp;done) | (go_simp;with_reducible rfl) | (go_simp;rw [if_neg (by omega),Tryst2.stepV_value];refine ⟨.refl _,?_⟩;with_reducible rfl) | (go_simp;(first | go_at_call 47 | go_at_call 45 | go_at_call 44 | go_at_call 43 | go_at_call 46 | go_at_call 59 | go_at_call 49 | go_at_call 104);(first | with_reducible refine (D1.out _).mono ?_ | with_reducible refine (D2.out _).mono ?_ | with_reducible refine (D3.out _).mono ?_ | with_reducible refine (D4.out _).mono ?_ | with_reducible refine (D5.out _).mono ?_ | with_reducible refine (D6.out _).mono ?_);rintro e w5 ⟨rfl,hb5⟩;refine ⟨hb5,?_⟩;with_reducible rfl))));simp only [Act.put,List.setIfInBounds_toArray,List.set_cons_zero,List.set_cons_succ])
     intro w' hg;obtain ⟨hcg,hfg,hsg⟩:=YG hg
     try change wpList _ _ _ [] _ _
     have HB2:=Zh (Qk (Tryst2.Grow.below hg (.refl _ _)) HB.out);clear hg hcg hfg hsg;go_wp2_with fail;go_roundw
     case rel=>exact ⟨u+1,_,by omega,by go_num,rfl,HN,HB2⟩
     case measure=>simp [intOf]<;>omega
    ·
     obtain ⟨O3,hO3⟩:∃ O,O2++lps.flatMap kQ5++pack sl.length=O:=⟨_,rfl⟩;have hl3:O3.length=O2.length+(lps.flatMap kQ5).length+(pack sl.length).length:=by rw [<- hO3];simp only [List.length_append]
     have hA:B=⟨(O2++lps.flatMap kQ5).toArray⟩:=by rw [HA.out,List.take_of_length_le (by omega)]
     have sA:B.size=O2.length+(lps.flatMap kQ5).length:=by rw [hA,mk_size,List.length_append]
     have D2:=E3;obtain ⟨P2,h2⟩:∃ A:ByteArray,⟨(pack sl.length).toArray⟩=A:=⟨_,rfl⟩;have s2:P2.size=(pack sl.length).length:=by rw [<- h2,mk_size]
     rw [h2] at D2;have HO3:Hid (B++P2=⟨O3.toArray⟩):=Zh (by rw [hA,<- h2,<- hO3];exact Xk (by simp));have HO3':=Zh hO3;have b0:B.size<=1000000000:=by omega
     have b3:P2.size<=1000000000:=by omega
     clear h2 hO3 hA HA sA s2 E3 HFL XL HPL;go_wp2_with fail;refine (D2.out _).mono ?_;rintro e w4 ⟨rfl,hb4⟩;have HB4:=Zh (Qk hb4 HWW.out);have HS4:=Zh (HSo.out.grow hb4);clear hb4 D2 HWW HSo HB z0 z1 z2 z3 z4 z5 z6 z7 hzs;go_wp2_with fail;obtain ⟨A3,hA3⟩:∃ A3,B++P2=A3:=⟨_,rfl⟩;rw [hA3] at HO3 ⊢;clear hA3 b0 b3;go_loopw [3,6] (fun s i wr=>RLR w4 subL O3 sps s i wr) (fun _ i _=>sl.length - (intOf i).toNat)
     case atStart=>exact ⟨0,A3,by omega,rfl,rfl,Zh (by rw [List.take_zero,List.flatMap_nil,List.append_nil];exact HO3.out),Zh (.refl _ _)⟩
     case round=>
      clear HO3;obtain ⟨q,C,hq,rfl,rfl,HA,HB⟩:=hrel;obtain ⟨wq,rfl⟩:∃ wq,wq=wr:=⟨_,rfl⟩;have HWW:=Zh (Qk HB.out HB4.out);have HSo:=Zh (HS4.out.grow HB.out);obtain ⟨z0,z1,z2,z3,z4,z5,z6,z7⟩:=v8 (HSo.out);have hzs:=HSo.out.lt
      by_cases hql:q < sl.length
      ·
       have hlp:q < sps.length:=by omega
       have hrow:=HFS.out wq HWW.out;obtain ⟨b,o,ha,hb⟩:=hrow.head (i:=q) (by simpa using hql);subst ha;obtain ⟨_,hcell⟩:=hrow.at (i:=q) (by simpa using hql);simp only [List.getElem_map] at hcell;have g0:=hcell 0 (by decide);have g1:=hcell 1 (by decide);have g2:=hcell 2 (by decide);have g3:=hcell 3 (by decide);have g4:=hcell 4 (by decide);have g5:=hcell 5 (by decide);have g6:=hcell 6 (by decide);have g7:=hcell 7 (by decide);have g8:=hcell 8 (by decide);have g9:=hcell 9 (by decide);have g10:=hcell 10 (by decide);have g11:=hcell 11 (by decide);have g12:=hcell 12 (by decide);have g13:=hcell 13 (by decide);have g14:=hcell 14 (by decide);simp only [SubB.cells,List.getElem_cons_zero,List.getElem_cons_succ,Nat.add_zero] at g0 g1 g2 g3 g4 g5 g6 g7 g8 g9 g10 g11 g12 g13 g14;have hfl:=jQE subL hlp;have HFN:=Zh (Xy subL hlp);rw [HPS.out q hql hlp] at hfl HFN;have D1:=Zh (fun W hb=>HSM.out q hql (by omega) W hb);unfold SubB.agg at D1;have sC:C.size=O3.length+((sps.take q).flatMap subL).length:=by rw [HA.out,mk_size,List.length_append]
       have x1:(q:Int) < sl.length:=by omega
       have x2:(0:Int)<=q:=by omega
       obtain ⟨P1,h1⟩:∃ A:ByteArray,⟨(subL (SubB.p sl[q])).toArray⟩=A:=⟨_,rfl⟩;have s1:P1.size=(subL (SubB.p sl[q])).length:=by rw [<- h1,mk_size]
       rw [h1] at D1;have HN:Hid (C++P1=⟨(O3++(sps.take (q+1)).flatMap subL).toArray⟩):=Zh (by rw [HA.out,HFN.out,<- h1];exact Xk (by simp));have b0:C.size<=1000000000:=by omega
       have b3:P1.size<=1000000000:=by omega
       clear h1 HFN HA hfl sC hcell hrow z0 z1 z2 z4 z5 z6 z7 s1;go_wp2_with fail;refine (D1.out _ HWW.out).mono ?_;rintro e w5 ⟨rfl,hb5⟩;have HB2:=Zh (Qk hb5 HB.out);clear hb5 g0 g1 g2 g3 g4 g5 g6 g7 g8 g9 g10 g11 g12 g13 g14 D1;go_wp2_with fail;go_roundw
       case rel=>exact ⟨q+1,_,by omega,by go_num,rfl,HN,HB2⟩
       case measure=>simp [intOf]<;>omega
      ·
       have hA:C=⟨(O3++sps.flatMap subL).toArray⟩:=by rw [HA.out,List.take_of_length_le (by omega)]
       have sA:C.size=O3.length+(sps.flatMap subL).length:=by rw [hA,mk_size,List.length_append]
       have D1:=E4;have D2:=E5;have D3:=EU;have D4:=EG;obtain ⟨P1,h1⟩:∃ A:ByteArray,⟨(numL total).toArray⟩=A:=⟨_,rfl⟩;have s1:P1.size=(numL total).length:=by rw [<- h1,mk_size]
       rw [h1] at D1;obtain ⟨P2,h2⟩:∃ A:ByteArray,⟨(pack dl.length).toArray⟩=A:=⟨_,rfl⟩;have s2:P2.size=(pack dl.length).length:=by rw [<- h2,mk_size]
       rw [h2] at D2;obtain ⟨P3,h3⟩:∃ A:ByteArray,⟨(LU).toArray⟩=A:=⟨_,rfl⟩;have s3:P3.size=(LU).length:=by rw [<- h3,mk_size]
       rw [h3] at D3;obtain ⟨P4,h4⟩:∃ A:ByteArray,⟨(LG).toArray⟩=A:=⟨_,rfl⟩;have s4:P4.size=(LG).length:=by rw [<- h4,mk_size]
       rw [h4] at D4;have M3:=D3;have M4:=D4;obtain ⟨O4,hO4⟩:∃ O,O3++sps.flatMap subL++(numL total++LU++LG++pack dl.length)=O:=⟨_,rfl⟩;have hl4:O4.length=O3.length+(sps.flatMap subL).length+((numL total).length+LU.length+LG.length+(pack dl.length).length):=by rw [<- hO4];simp only [List.length_append]
       have HO4:Hid (C++(P1++P3++P4++P2)=⟨O4.toArray⟩):=Zh (by rw [hA,<- h1,<- h2,<- h3,<- h4,<- hO4];exact Xk (by simp));have HO4':=Zh hO4;have b0:C.size<=1000000000:=by omega
       have b1:P1.size<=1000000000:=by omega
       have b2:P2.size<=1000000000:=by omega
       have b3:P3.size<=1000000000:=by omega
       have b4:P4.size<=1000000000:=by omega
       clear h1 h2 h3 h4 hO4 hA HA sA s1 s2 s3 s4 E4 E5 EU EG D3 D4 HFS HSM HPS;go_wp2_with fail;refine Tryst2.wp_region_text 18 (by kernel_rfl) (by kernel_rfl) ?_
       iterate 18 ((first | refine Tryst2.TW.skip (by rfl) ?_ | (refine' Tryst2.TW.op _ ?_ (by rfl) ?_;rotate_left;focus (intro w' hg;obtain ⟨hcg,hfg,hsg⟩:=YG hg;first | (go_simp;done) | (go_simp;with_reducible rfl) | (go_simp;rw [if_neg (by omega),Tryst2.stepV_value];refine ⟨.refl _,?_⟩;with_reducible rfl) | (go_simp;(first | go_at_call 45 | go_at_call 44 | go_at_call 43 | go_at_call 46 | go_at_call 49);(first | with_reducible refine (D1.out _).mono ?_ | with_reducible refine (D2.out _).mono ?_ | with_reducible refine (M3.out _ (Tryst2.Grow.below hg HWW.out)).mono ?_ | with_reducible refine (M4.out _ (Tryst2.Grow.below hg HWW.out)).mono ?_);rintro e w5 ⟨rfl,hb5⟩;refine ⟨hb5,?_⟩;with_reducible rfl))));simp only [Act.put,List.setIfInBounds_toArray,List.set_cons_zero,List.set_cons_succ])
       intro w' hg;obtain ⟨hcg,hfg,hsg⟩:=YG hg
       try change wpList _ _ _ [] _ _
       have HB5:=Zh (Qk (Tryst2.Grow.below hg (.refl _ _)) HWW.out);have HS5:=Zh (HSo.out.grow (Tryst2.Grow.below hg (.refl _ _)));clear hg hcg hfg hsg D1 D2 M3 M4 HWW HSo HB z0 z1 z2 z3 z4 z5 z6 z7 hzs;go_wp2_with fail;obtain ⟨A4,hA4⟩:∃ A4,C++(P1++P3++P4++P2)=A4:=⟨_,rfl⟩;rw [hA4] at HO4 ⊢;clear hA4 b0 b1 b2 b3 b4;go_loopw [3,7] (fun s i wr=>RLR w' qQy O4 dps s i wr) (fun _ i _=>dl.length - (intOf i).toNat)
       case atStart=>exact ⟨0,A4,by omega,rfl,rfl,Zh (by rw [List.take_zero,List.flatMap_nil,List.append_nil];exact HO4.out),Zh (.refl _ _)⟩
       case round=>
        clear HO4;obtain ⟨v,D,hv,rfl,rfl,HA,HB⟩:=hrel;obtain ⟨wv,rfl⟩:∃ wv,wv=wr:=⟨_,rfl⟩;have HWW:=Zh (Qk HB.out HB5.out);have HSo:=Zh (HS5.out.grow HB.out);obtain ⟨z0,z1,z2,z3,z4,z5,z6,z7⟩:=v8 (HSo.out);have hzs:=HSo.out.lt
        by_cases hvl:v < dl.length
        ·
         have hlp:v < dps.length:=by omega
         have hrow:=HFD.out wv HWW.out;obtain ⟨b,o,ha,hb⟩:=hrow.head (i:=v) (by simpa using hvl);subst ha;obtain ⟨_,hcell⟩:=hrow.at (i:=v) (by simpa using hvl);simp only [List.getElem_map] at hcell;have g0:=hcell 0 (by decide);have g1:=hcell 1 (by decide);simp only [DeadB.cells,List.getElem_cons_zero,List.getElem_cons_succ,Nat.add_zero] at g0 g1;obtain ⟨q1,q2⟩:=XD.out v hvl;have hfl:=jQE qQy hlp;have HFN:=Zh (Xy qQy hlp);rw [HPD.out v hvl hlp] at hfl HFN;have hfl:((dps.take v).flatMap qQy).length+(strL dl[v].sub++strL dl[v].e).length<=(dps.flatMap qQy).length:=hfl;have HFN:Hid ((dps.take (v+1)).flatMap qQy=(dps.take v).flatMap qQy++(strL dl[v].sub++strL dl[v].e)):=HFN;simp only [List.length_append] at hfl;have sD:D.size=O4.length+((dps.take v).flatMap qQy).length:=by rw [HA.out,mk_size,List.length_append]
         have x1:(v:Int) < dl.length:=by omega
         have x2:(0:Int)<=v:=by omega
         have D1:=Zh (fun W=>J2 dl[v].sub (by omega) W);have D2:=Zh (fun W=>J2 dl[v].e (by omega) W);obtain ⟨P1,h1⟩:∃ A:ByteArray,⟨(strL dl[v].sub).toArray⟩=A:=⟨_,rfl⟩;have s1:P1.size=(strL dl[v].sub).length:=by rw [<- h1,mk_size]
         rw [h1] at D1;obtain ⟨P2,h2⟩:∃ A:ByteArray,⟨(strL dl[v].e).toArray⟩=A:=⟨_,rfl⟩;have s2:P2.size=(strL dl[v].e).length:=by rw [<- h2,mk_size]
         rw [h2] at D2;have HN:Hid (D++(P1++P2)=⟨(O4++(dps.take (v+1)).flatMap qQy).toArray⟩):=Zh (by rw [HA.out,HFN.out,<- h1,<- h2];exact Xk (by simp));have b0:D.size<=1000000000:=by omega
         have b3:P1.size<=1000000000:=by omega
         have b4:P2.size<=1000000000:=by omega
         clear h1 h2 HFN HA hfl sD hcell hrow z0 z1 z2 z3 z4 z5 z6 s1 s2 q1 q2;go_upto_region 20 with fail
         refine Tryst2.wp_region_text 17 (by kernel_rfl) (by kernel_rfl) ?_
         iterate 17 ((first | refine Tryst2.TW.skip (by rfl) ?_ | (refine' Tryst2.TW.op _ ?_ (by rfl) ?_;rotate_left;focus (intro w' hg;obtain ⟨hcg,hfg,hsg⟩:=YG hg;first | (go_simp;done) | (go_simp;with_reducible rfl) | (go_simp;rw [if_neg (by omega),Tryst2.stepV_value];refine ⟨.refl _,?_⟩;with_reducible rfl) | (go_simp;(first | go_at_call 47 | go_at_call 45 | go_at_call 44 | go_at_call 43 | go_at_call 46 | go_at_call 59 | go_at_call 49 | go_at_call 104);(first | with_reducible refine (D1.out _).mono ?_ | with_reducible refine (D2.out _).mono ?_ | with_reducible refine (D3.out _).mono ?_ | with_reducible refine (D4.out _).mono ?_ | with_reducible refine (D5.out _).mono ?_ | with_reducible refine (D6.out _).mono ?_);rintro e w5 ⟨rfl,hb5⟩;refine ⟨hb5,?_⟩;with_reducible rfl))));simp only [Act.put,List.setIfInBounds_toArray,List.set_cons_zero,List.set_cons_succ])
         intro w' hg;obtain ⟨hcg,hfg,hsg⟩:=YG hg
         try change wpList _ _ _ [] _ _
         have HB2:=Zh (Qk (Tryst2.Grow.below hg (.refl _ _)) HB.out);clear hg hcg hfg hsg;go_wp2_with fail;go_roundw
         case rel=>exact ⟨v+1,_,by omega,by go_num,rfl,HN,HB2⟩
         case measure=>simp [intOf]<;>omega
        ·
         have HN:Hid (D=⟨(numL now++((pack tl.length++tps.flatMap topL)++((pack ll.length++lps.flatMap kQ5)++((pack sl.length++sps.flatMap subL)++(numL total++(LU++(LG++(pack dl.length++dps.flatMap qQy)))))))).toArray⟩):=Zh (by
          rw [HA.out,List.take_of_length_le (by omega),<- HO4'.out,<- HO3'.out,<- HO2'.out,<- HO1'.out];exact Xk (by simp))
         go_wp2_with fail;go_ret;exact ⟨congrArg (fun z=>Ending.returned (.string z)) HN.out,HWW.out⟩
