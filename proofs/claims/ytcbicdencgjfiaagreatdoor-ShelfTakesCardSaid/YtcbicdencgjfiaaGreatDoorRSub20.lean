import Derived.Test.YtcbicdencgjfiaaGreatDoorROut20
set_option linter.all false
set_option maxHeartbeats 16000000
set_option maxRecDepth 20000
namespace Go.Proofs.YtcbicdencgjfiaaGreatDoor
open Go Go.RowKit Tryst
theorem zYs (x:SubB) (hq:SqX x.q) (hm:∀ p∈x.d.wl,mayP p.pr=true) (hd:(defL x.d.dp).length<=1500000) (hlen:(subL (SubB.p x)).length<=1000000000) (w:World) (hW:SubW w x) :
  Calls Tryz.prog 48 #[x.agg] w fun e w'=>e=.returned (.string ⟨(subL (SubB.p x)).toArray⟩)/\Below w.heap.size w w':=by
 obtain ⟨r1,⟨hn2,h3⟩,⟨h4,h5,h6⟩,⟨i0,i1⟩,⟨i2,i3⟩,⟨i4,i5⟩,⟨i6,i7⟩,⟨i8,i9⟩⟩:=hq;have CD:=Zh (fun W (hb:Below w.heap.size w W)=>vYC x.d W (hW.grow hb).d r1 hm hd);have HFO:=Zh (fun W (hb:Below w.heap.size w W)=>OfR.mk (hW.grow hb).o);have HFI:=Zh (fun W (hb:Below w.heap.size w W)=>(show Row W x.ia 4 (x.il.map InB.cells) from (hW.grow hb).i));have HFK:=Zh (fun (k:Nat) (hk:k < x.il.length) W (hb:Below w.heap.size w W)=>KpR.mk ((hW.grow hb).k _ (List.getElem_mem hk)).1);have HX2:=Zh (fun (k:Nat) (hk:k < x.ol.length)=>h3 _ (List.getElem_mem hk));have HX3:=Zh (fun (k:Nat) (hk:k < x.il.length)=>h6 (InB.p x.il[k]) (List.mem_map.2 ⟨_,List.getElem_mem hk,rfl⟩));have h4:(x.il.map InB.p).length<=1500000:=h4;rw [List.length_map] at h4;have hn2:x.ol.length<=1500000:=hn2;clear hW hm hd r1 h3 h5 h6;obtain ⟨d,oa,ol,oc,ia,il,ic,fails,taken,passes,fires,over⟩:=x;unfold SubB.agg;unfold DB.agg at CD;simp only [SubB.q] at CD HFO HFI HFK HX2 HX3 hn2 h4 i0 i1 i2 i3 i4 i5 i6 i7 i8 i9 ⊢
 have hsp:subL (SubB.p ⟨d,oa,ol,oc,ia,il,ic,fails,taken,passes,fires,over⟩)=defL d.dp++((pack ol.length++(ol.map OB.p).flatMap offL)++((pack il.length++(il.map InB.p).flatMap jQi)++(numL fails++(numL taken++(numL passes++(numL fires++numL over)))))):=by
  unfold subL SubB.p Qf;simp only [List.length_map]
 rw [hsp] at hlen ⊢;clear hsp;simp only [List.length_append] at hlen;have ho1:(ol.map OB.p).length=ol.length:=List.length_map ..;have hi1:(il.map InB.p).length=il.length:=List.length_map ..;have HPO:Hid (∀ (k:Nat) (hk:k < ol.length) (hp:k < (ol.map OB.p).length),(ol.map OB.p)[k]=OB.p ol[k]):=Zh (fun k hk hp=>List.getElem_map ..);have HPI:Hid (∀ (k:Nat) (hk:k < il.length) (hp:k < (il.map InB.p).length),(il.map InB.p)[k]=InB.p il[k]):=Zh (fun k hk hp=>List.getElem_map ..);generalize ol.map OB.p=ops at ho1 HPO hlen ⊢;generalize il.map InB.p=ips at hi1 HPI hlen ⊢;have D2:=Zh (fun W=>Q4 ol.length (by omega) W);have E3:=Zh (fun W=>Q4 il.length (by omega) W);obtain ⟨P1,h1⟩:∃ A:ByteArray,⟨(defL d.dp).toArray⟩=A:=⟨_,rfl⟩;have s1:P1.size=(defL d.dp).length:=by rw [<- h1,mk_size]
 rw [h1] at CD;obtain ⟨P2,h2⟩:∃ A:ByteArray,⟨(pack ol.length).toArray⟩=A:=⟨_,rfl⟩;have s2:P2.size=(pack ol.length).length:=by rw [<- h2,mk_size]
 rw [h2] at D2;obtain ⟨O1,hO1⟩:∃ O,defL d.dp++pack ol.length=O:=⟨_,rfl⟩;have HO1:Hid (P1++P2=⟨O1.toArray⟩):=Zh (by rw [<- h1,<- h2,<- hO1];exact Xk (by simp));have HO1':=Zh hO1;have hl1:O1.length=(defL d.dp).length+(pack ol.length).length:=by rw [<- hO1,List.length_append]
 have b1:P1.size<=1000000000:=by omega
 have b2:P2.size<=1000000000:=by omega
 clear h1 h2 hO1;have HS0:=Zh (Var.new w 68 [.string d.name,.slice d.ga d.gl.length d.gc,.slice d.wa d.wl.length d.wc,.string d.key,.string d.j.kind,.int .i64 d.j.parts,.int .i64 d.j.need,.int .i64 d.j.window,.slice oa ol.length oc,.slice ia il.length ic,.int .i64 fails,.int .i64 taken,.int .i64 passes,.int .i64 fires,.int .i64 over]);have HB0:=Zh (Qj (.cells #[.string d.name,.slice d.ga d.gl.length d.gc,.slice d.wa d.wl.length d.wc,.string d.key,.string d.j.kind,.int .i64 d.j.parts,.int .i64 d.j.need,.int .i64 d.j.window,.slice oa ol.length oc,.slice ia il.length ic,.int .i64 fails,.int .i64 taken,.int .i64 passes,.int .i64 fires,.int .i64 over] 68) (.refl w.heap.size w));go_enter Tryz.func48,Tryz.ntmps48;go_upto_region 1 with fail
 revert HS0 HB0;simp only [List.toArray];generalize w.alloc (.cells _ 68)=X;intro HS0 HB0;obtain ⟨z0,z1,z2,z3,z4,z5,z6,z7,z8,z9,z10,z11,z12,z13,z14⟩:=v15 (HS0.out);have hzs:=HS0.out.lt;refine Tryst2.wp_region_text 8 (by kernel_rfl) (by kernel_rfl) ?_
 iterate 8 ((first | refine Tryst2.TW.skip (by rfl) ?_ | (refine' Tryst2.TW.op _ ?_ (by rfl) ?_;rotate_left;focus (intro w' hg;obtain ⟨hcg,hfg,hsg⟩:=YG hg;first | (go_simp;done) | (go_simp;with_reducible rfl) | (go_simp;rw [if_neg (by omega),Tryst2.stepV_value];refine ⟨.refl _,?_⟩;with_reducible rfl) | (go_simp;(first | (go_at_call 59;with_reducible refine (CD.out _ (Tryst2.Grow.below hg HB0.out)).mono ?_) | (go_at_call 44;with_reducible refine (D2.out _).mono ?_));rintro e w5 ⟨rfl,hb5⟩;refine ⟨hb5,?_⟩;with_reducible rfl))));simp only [Act.put,List.setIfInBounds_toArray,List.set_cons_zero,List.set_cons_succ])
 intro w' hg;obtain ⟨hcg,hfg,hsg⟩:=YG hg
 try change wpList _ _ _ [] _ _
 have HB1:=Zh (Qk (Tryst2.Grow.below hg (.refl _ _)) HB0.out);have HS1:=Zh (HS0.out.grow (Tryst2.Grow.below hg (.refl _ _)));clear hg hcg hfg hsg CD D2 HB0 HS0 z0 z1 z2 z3 z4 z5 z6 z7 z8 z9 z10 z11 z12 z13 z14 hzs;obtain ⟨z0,z1,z2,z3,z4,z5,z6,z7,z8,z9,z10,z11,z12,z13,z14⟩:=v15 (HS1.out);have hzs:=HS1.out.lt;go_wp2_with fail;obtain ⟨A1,hA1⟩:∃ A1,P1++P2=A1:=⟨_,rfl⟩;rw [hA1] at HO1 ⊢;clear hA1;have hz1:O1.length+(ops.flatMap offL).length<=1000000000:=by omega
 clear s1 s2 b1 b2;go_loopw [3,4] (fun s i wr=>RLR w' offL O1 ops s i wr) (fun _ i _=>ol.length - (intOf i).toNat)
 case atStart=>exact ⟨0,A1,by omega,rfl,rfl,Zh (by rw [List.take_zero,List.flatMap_nil,List.append_nil];exact HO1.out),Zh (.refl _ _)⟩
 case round=>
  clear HO1 z0 z1 z2 z3 z4 z5 z6 z7 z8 z9 z10 z11 z12 z13 z14 hzs;obtain ⟨k,A,hk,rfl,rfl,HA,HB⟩:=hrel;obtain ⟨wo,rfl⟩:∃ wo,wo=wr:=⟨_,rfl⟩;have HWW:=Zh (Qk HB.out HB1.out);have HSo:=Zh (HS1.out.grow HB.out);obtain ⟨z0,z1,z2,z3,z4,z5,z6,z7,z8,z9,z10,z11,z12,z13,z14⟩:=v15 (HSo.out);have hzs:=HSo.out.lt
  by_cases hlt:k < ol.length
  ·
   have hlp:k < ops.length:=by omega
   have hrow:=HFO.out wo HWW.out;obtain ⟨b,o,ha,hb⟩:=hrow.head hlt;subst ha;obtain ⟨_,g0,g1⟩:=hrow.r.at hlt;obtain ⟨q1,q2,q3⟩:=HX2.out k hlt;have hfl:=jQE offL hlp;have HFN:=Zh (Xy offL hlp);rw [HPO.out k hlt hlp] at hfl HFN;have hfl:((ops.take k).flatMap offL).length+(strL ol[k].topic++numL ol[k].next).length<=(ops.flatMap offL).length:=hfl;have HFN:Hid ((ops.take (k+1)).flatMap offL=(ops.take k).flatMap offL++(strL ol[k].topic++numL ol[k].next)):=HFN;rw [List.length_append] at hfl;have sA:A.size=O1.length+((ops.take k).flatMap offL).length:=by rw [HA.out,mk_size,List.length_append]
   have x1:(k:Int) < ol.length:=by omega
   have x2:(0:Int)<=k:=by omega
   have D1:=Zh (fun W=>J2 ol[k].topic (by omega) W);have D2:=Zh (fun W=>Q3 ol[k].next q2 q3 W);obtain ⟨P1,h1⟩:∃ A:ByteArray,⟨(strL ol[k].topic).toArray⟩=A:=⟨_,rfl⟩;have s1:P1.size=(strL ol[k].topic).length:=by rw [<- h1,mk_size]
   rw [h1] at D1;obtain ⟨P2,h2⟩:∃ A:ByteArray,⟨(numL ol[k].next).toArray⟩=A:=⟨_,rfl⟩;have s2:P2.size=(numL ol[k].next).length:=by rw [<- h2,mk_size]
   rw [h2] at D2;have HN:Hid (A++(P1++P2)=⟨(O1++(ops.take (k+1)).flatMap offL).toArray⟩):=Zh (by rw [HA.out,HFN.out,<- h1,<- h2];exact Xk (by simp));have b0:A.size<=1000000000:=by omega
   have b3:P1.size<=1000000000:=by omega
   have b4:P2.size<=1000000000:=by omega
   clear h1 h2 HFN HA hfl sA s1 s2 hrow z0 z1 z2 z3 z4 z5 z6 z7 z9 z10 z11 z12 z13 z14;go_upto_region 5 with fail
   refine Tryst2.wp_region_text 17 (by kernel_rfl) (by kernel_rfl) ?_
   iterate 17 ((first | refine Tryst2.TW.skip (by rfl) ?_ | (refine' Tryst2.TW.op _ ?_ (by rfl) ?_;rotate_left;focus (intro w' hg;obtain ⟨hcg,hfg,hsg⟩:=YG hg;first | (go_simp;done) | (go_simp;with_reducible rfl) | (go_simp;rw [if_neg (by omega),Tryst2.stepV_value];refine ⟨.refl _,?_⟩;with_reducible rfl) | (go_simp;(first | go_at_call 47 | go_at_call 45 | go_at_call 44 | go_at_call 43 | go_at_call 46 | go_at_call 59 | go_at_call 49 | go_at_call 104);(first | with_reducible refine (D1.out _).mono ?_ | with_reducible refine (D2.out _).mono ?_ | with_reducible refine (D3.out _).mono ?_ | with_reducible refine (D4.out _).mono ?_ | with_reducible refine (D5.out _).mono ?_ | with_reducible refine (D6.out _).mono ?_);rintro e w5 ⟨rfl,hb5⟩;refine ⟨hb5,?_⟩;with_reducible rfl))));simp only [Act.put,List.setIfInBounds_toArray,List.set_cons_zero,List.set_cons_succ])
   intro w' hg;obtain ⟨hcg,hfg,hsg⟩:=YG hg
   try change wpList _ _ _ [] _ _
   have HB2:=Zh (Qk (Tryst2.Grow.below hg (.refl _ _)) HB.out);clear hg hcg hfg hsg;go_wp2_with fail;go_roundw
   case rel=>exact ⟨k+1,_,by omega,by go_num,rfl,HN,HB2⟩
   case measure=>simp [intOf]<;>omega
  ·
   obtain ⟨O2,hO2⟩:∃ O,O1++ops.flatMap offL++pack il.length=O:=⟨_,rfl⟩;have hl2:O2.length=O1.length+(ops.flatMap offL).length+(pack il.length).length:=by rw [<- hO2];simp only [List.length_append]
   have hA:A=⟨(O1++ops.flatMap offL).toArray⟩:=by rw [HA.out,List.take_of_length_le (by omega)]
   have sA:A.size=O1.length+(ops.flatMap offL).length:=by rw [hA,mk_size,List.length_append]
   have D3:=E3;obtain ⟨P3,h3⟩:∃ A:ByteArray,⟨(pack il.length).toArray⟩=A:=⟨_,rfl⟩;have s3:P3.size=(pack il.length).length:=by rw [<- h3,mk_size]
   rw [h3] at D3;have HO2:Hid (A++P3=⟨O2.toArray⟩):=Zh (by rw [hA,<- h3,<- hO2];exact Xk (by simp));have HO2':=Zh hO2;have b0:A.size<=1000000000:=by omega
   have b3:P3.size<=1000000000:=by omega
   have hz2:O2.length+(ips.flatMap jQi).length<=1000000000:=by omega
   clear h3 hO2 hA HA sA s3 E3 HFO HX2 HPO;go_wp2_with fail;refine (D3.out _).mono ?_;rintro e w3 ⟨rfl,hb3⟩;have HB3:=Zh (Qk hb3 HWW.out);have HS3:=Zh (HSo.out.grow hb3);clear hb3 D3 HWW HSo HB z0 z1 z2 z3 z4 z5 z6 z7 z8 z9 z10 z11 z12 z13 z14 hzs;obtain ⟨z0,z1,z2,z3,z4,z5,z6,z7,z8,z9,z10,z11,z12,z13,z14⟩:=v15 (HS3.out);have hzs:=HS3.out.lt;go_wp2_with fail;obtain ⟨A2,hA2⟩:∃ A2,A++P3=A2:=⟨_,rfl⟩;rw [hA2] at HO2 ⊢;clear hA2;go_loopw [3,5] (fun s i wr=>RLR w3 jQi O2 ips s i wr) (fun _ i _=>il.length - (intOf i).toNat)
   case atStart=>exact ⟨0,A2,by omega,rfl,rfl,Zh (by rw [List.take_zero,List.flatMap_nil,List.append_nil];exact HO2.out),Zh (.refl _ _)⟩
   case round=>
    clear HO2 z0 z1 z2 z3 z4 z5 z6 z7 z8 z9 z10 z11 z12 z13 z14 hzs;obtain ⟨u,B,hu,rfl,rfl,HA,HB⟩:=hrel;obtain ⟨wu,rfl⟩:∃ wu,wu=wr:=⟨_,rfl⟩;have HWW:=Zh (Qk HB.out HB3.out);have HSo:=Zh (HS3.out.grow HB.out);obtain ⟨z0,z1,z2,z3,z4,z5,z6,z7,z8,z9,z10,z11,z12,z13,z14⟩:=v15 (HSo.out);have hzs:=HSo.out.lt
    by_cases hul:u < il.length
    ·
     have hlp:u < ips.length:=by omega
     have hrow:=HFI.out wu HWW.out;obtain ⟨b,o,ha,hb⟩:=hrow.head (i:=u) (by simpa using hul);subst ha;obtain ⟨_,hcell⟩:=hrow.at (i:=u) (by simpa using hul);simp only [List.getElem_map] at hcell;have g0:=hcell 0 (by decide);have g1:=hcell 1 (by decide);have g2:=hcell 2 (by decide);have g3:=hcell 3 (by decide);simp only [InB.cells,List.getElem_cons_zero,List.getElem_cons_succ,Nat.add_zero] at g0 g1 g2 g3;obtain ⟨q1,⟨q2,q3⟩,q4,q5⟩:=HX3.out u hul;have hfl:=jQE jQi hlp;have HFN:=Zh (Xy jQi hlp);rw [HPI.out u hul hlp] at hfl HFN;have HMK:=Zh (fun W hb=>HFK.out u hul W hb);obtain ⟨x,hx⟩:∃ x,il[u]=x:=⟨_,rfl⟩;rw [hx] at g0 g1 g2 g3 hfl HFN HMK q1 q2 q3 q4 q5;clear hx hcell hrow;obtain ⟨xb,xn,xs,xa,xl,xc⟩:=x;have q1:xs.data.toList.length<=1500000:=q1;have q2:-9223372036854775808<=xn:=q2;have q3:xn<=9223372036854775807:=q3;have q4:(xl.map KpB.p).length<=1500000:=q4;have q5:∀ k∈xl.map KpB.p,kQq k:=q5;rw [Qx] at q1;rw [List.length_map] at q4;simp only at g0 g1 g2 g3 HMK;have hfl:((ips.take u).flatMap jQi).length+(V.lay ⟨xb,xn,xs.data.toList⟩++(pack (xl.map KpB.p).length++(xl.map KpB.p).flatMap kQR)).length<=(ips.flatMap jQi).length:=hfl;have HFN:Hid ((ips.take (u+1)).flatMap jQi=(ips.take u).flatMap jQi++(V.lay ⟨xb,xn,xs.data.toList⟩++(pack (xl.map KpB.p).length++(xl.map KpB.p).flatMap kQR))):=HFN;rw [List.length_map] at hfl HFN;simp only [List.length_append] at hfl;have HPK:Hid (∀ (k:Nat) (hk:k < xl.length) (hp:k < (xl.map KpB.p).length),(xl.map KpB.p)[k]=KpB.p xl[k]):=Zh (fun k hk hp=>List.getElem_map ..);have hk1:(xl.map KpB.p).length=xl.length:=List.length_map ..;have HXK:=Zh (fun (k:Nat) (hk:k < xl.length)=>q5 (KpB.p xl[k]) (List.mem_map.2 ⟨_,List.getElem_mem hk,rfl⟩));clear q5;generalize xl.map KpB.p=kps at hfl HFN HPK hk1;have sB:B.size=O2.length+((ips.take u).flatMap jQi).length:=by rw [HA.out,mk_size,List.length_append]
     have D1:=Zh (fun W=>vYb (x:=xb) (n:=xn) (s:=xs) (by omega) q2 q3 W);have D2:=Zh (fun W=>Q4 xl.length (by omega) W);obtain ⟨P1,h1⟩:∃ A:ByteArray,⟨(V.lay ⟨xb,xn,xs.data.toList⟩).toArray⟩=A:=⟨_,rfl⟩;have s1:P1.size=(V.lay ⟨xb,xn,xs.data.toList⟩).length:=by rw [<- h1,mk_size]
     rw [h1] at D1;obtain ⟨P2,h2⟩:∃ A:ByteArray,⟨(pack xl.length).toArray⟩=A:=⟨_,rfl⟩;have s2:P2.size=(pack xl.length).length:=by rw [<- h2,mk_size]
     rw [h2] at D2;obtain ⟨O3,hO3⟩:∃ O,(O2++(ips.take u).flatMap jQi)++(V.lay ⟨xb,xn,xs.data.toList⟩++pack xl.length)=O:=⟨_,rfl⟩;have HO3:Hid (B++(P1++P2)=⟨O3.toArray⟩):=Zh (by rw [HA.out,<- h1,<- h2,<- hO3];exact Xk (by simp));have HNX:Hid (O3++kps.flatMap kQR=O2++(ips.take (u+1)).flatMap jQi):=Zh (by rw [<- hO3,HFN.out];simp only [List.append_assoc]);have hl3:O3.length=O2.length+((ips.take u).flatMap jQi).length+((V.lay ⟨xb,xn,xs.data.toList⟩).length+(pack xl.length).length):=by rw [<- hO3];simp only [List.length_append]
     have hz3:O3.length+(kps.flatMap kQR).length<=1000000000:=by omega
     have b0:B.size<=1000000000:=by omega
     have b1:P1.size<=1000000000:=by omega
     have b2:P2.size<=1000000000:=by omega
     have x1:(u:Int) < il.length:=by omega
     have x2:(0:Int)<=u:=by omega
     clear h1 h2 hO3 HA HFN hfl sB s1 s2 hl3 HX3 q2 q3;go_wp2_with fail;refine (D1.out _).mono ?_;rintro e w5 ⟨rfl,hb5⟩;have HB5:=Zh (Qk hb5 HB.out);have HWW5:=Zh (Qk hb5 HWW.out);have HS5:=Zh (HSo.out.grow hb5);clear hb5 D1 HB HWW HSo z0 z1 z2 z3 z4 z5 z6 z7 z8 z9 z10 z11 z12 z13 z14 hzs g0 g1 g2 g3;obtain ⟨z0,z1,z2,z3,z4,z5,z6,z7,z8,z9,z10,z11,z12,z13,z14⟩:=v15 (HS5.out);have hzs:=HS5.out.lt;go_wp2_with fail;refine (D2.out _).mono ?_;rintro e w6 ⟨rfl,hb6⟩;have HB6:=Zh (Qk hb6 HB5.out);have HWW6:=Zh (Qk hb6 HWW5.out);clear hb6 D2 HB5 HWW5 HS5 z0 z1 z2 z3 z4 z5 z6 z7 z8 z9 z10 z11 z12 z13 z14 hzs;go_wp2_with fail;obtain ⟨A3,hA3⟩:∃ A3,B++(P1++P2)=A3:=⟨_,rfl⟩;rw [hA3] at HO3 ⊢;clear hA3;go_loopw [3,7] (fun s i wr=>RLR w6 kQR O3 kps s i wr) (fun _ i _=>xl.length - (intOf i).toNat)
     case atStart=>exact ⟨0,A3,by omega,rfl,rfl,Zh (by rw [List.take_zero,List.flatMap_nil,List.append_nil];exact HO3.out),Zh (.refl _ _)⟩
     case round=>
      clear HO3;obtain ⟨q,C,hq,rfl,rfl,HC,HBq⟩:=hrel;obtain ⟨wq,rfl⟩:∃ wq,wq=wr:=⟨_,rfl⟩;have HWQ:=Zh (Qk HBq.out HWW6.out)
      by_cases hql:q < xl.length
      ·
       have hqp:q < kps.length:=by omega
       have hrow:=HMK.out wq HWQ.out;obtain ⟨b2',o2,ha2,hb2⟩:=hrow.head hql;subst ha2;obtain ⟨_,g0,g1,g2⟩:=Xg.at hrow.r hql;obtain ⟨⟨r0,r1⟩,r2,⟨r3,r4⟩⟩:=HXK.out q hql;have hfl:=jQE kQR hqp;have HFN:=Zh (Xy kQR hqp);rw [HPK.out q hql hqp] at hfl HFN;have hfl:((kps.take q).flatMap kQR).length+(numL xl[q].part++(pack xl[q].id++numL xl[q].time)).length<=(kps.flatMap kQR).length:=hfl;have HFN:Hid ((kps.take (q+1)).flatMap kQR=(kps.take q).flatMap kQR++(numL xl[q].part++(pack xl[q].id++numL xl[q].time))):=HFN;simp only [List.length_append] at hfl;have sC:C.size=O3.length+((kps.take q).flatMap kQR).length:=by rw [HC.out,mk_size,List.length_append]
       have D1:=Zh (fun W=>Q3 xl[q].part r0 r1 W);have D2:=Zh (fun W=>zYT xl[q].id r2 W);have D3:=Zh (fun W=>Q3 xl[q].time r3 r4 W);clear b1 b2;obtain ⟨P1,h1⟩:∃ A:ByteArray,⟨(numL xl[q].part).toArray⟩=A:=⟨_,rfl⟩;have s1:P1.size=(numL xl[q].part).length:=by rw [<- h1,mk_size]
       rw [h1] at D1;obtain ⟨P2,h2⟩:∃ A:ByteArray,⟨(pack xl[q].id).toArray⟩=A:=⟨_,rfl⟩;have s2:P2.size=(pack xl[q].id).length:=by rw [<- h2,mk_size]
       rw [h2] at D2;obtain ⟨P3,h3⟩:∃ A:ByteArray,⟨(numL xl[q].time).toArray⟩=A:=⟨_,rfl⟩;have s3:P3.size=(numL xl[q].time).length:=by rw [<- h3,mk_size]
       rw [h3] at D3;have HN:Hid (C++(P1++P2++P3)=⟨(O3++(kps.take (q+1)).flatMap kQR).toArray⟩):=Zh (by rw [HC.out,HFN.out,<- h1,<- h2,<- h3];exact Xk (by simp));have b1:C.size<=1000000000:=by omega
       have b3:P1.size<=1000000000:=by omega
       have b4:P2.size<=1000000000:=by omega
       have b5:P3.size<=1000000000:=by omega
       have y1:(q:Int) < xl.length:=by omega
       have y2:(0:Int)<=q:=by omega
       clear h1 h2 h3 HFN HC hfl sC s1 s2 s3 hrow r0 r1 r2 r3 r4;go_upto_region 15 with fail
       refine Tryst2.wp_region_text 22 (by kernel_rfl) (by kernel_rfl) ?_
       iterate 22 ((first | refine Tryst2.TW.skip (by rfl) ?_ | (refine' Tryst2.TW.op _ ?_ (by rfl) ?_;rotate_left;focus (intro w' hg;obtain ⟨hcg,hfg,hsg⟩:=YG hg;first | (go_simp;done) | (go_simp;with_reducible rfl) | (go_simp;rw [if_neg (by omega),Tryst2.stepV_value];refine ⟨.refl _,?_⟩;with_reducible rfl) | (go_simp;(first | go_at_call 47 | go_at_call 45 | go_at_call 44 | go_at_call 43 | go_at_call 46 | go_at_call 59 | go_at_call 49 | go_at_call 104);(first | with_reducible refine (D1.out _).mono ?_ | with_reducible refine (D2.out _).mono ?_ | with_reducible refine (D3.out _).mono ?_ | with_reducible refine (D4.out _).mono ?_ | with_reducible refine (D5.out _).mono ?_ | with_reducible refine (D6.out _).mono ?_);rintro e w5 ⟨rfl,hb5⟩;refine ⟨hb5,?_⟩;with_reducible rfl))));simp only [Act.put,List.setIfInBounds_toArray,List.set_cons_zero,List.set_cons_succ])
       intro w' hg;obtain ⟨hcg,hfg,hsg⟩:=YG hg
       try change wpList _ _ _ [] _ _
       have HB9:=Zh (Qk (Tryst2.Grow.below hg (.refl _ _)) HBq.out);clear hg hcg hfg hsg;go_wp2_with fail;go_roundw
       case rel=>exact ⟨q+1,_,by omega,by go_num,rfl,HN,HB9⟩
       case measure=>simp [intOf]<;>omega
      ·
       have hC:C=⟨(O2++(ips.take (u+1)).flatMap jQi).toArray⟩:=by rw [HC.out,List.take_of_length_le (by omega),HNX.out]
       have HC9:=Zh hC;have HB9:=Zh (Qk HBq.out HB6.out);clear hC HC;go_wp2_with fail;go_roundw
       case rel=>exact ⟨u+1,_,by omega,by go_num,rfl,HC9,HB9⟩
       case measure=>simp [intOf]<;>omega
    ·
     have hA:B=⟨(O2++ips.flatMap jQi).toArray⟩:=by rw [HA.out,List.take_of_length_le (by omega)]
     have sB:B.size=O2.length+(ips.flatMap jQi).length:=by rw [hA,mk_size,List.length_append]
     have D1:=Zh (fun W=>Q3 fails i0 i1 W);have D2:=Zh (fun W=>Q3 taken i2 i3 W);have D3:=Zh (fun W=>Q3 passes i4 i5 W);have D4:=Zh (fun W=>Q3 fires i6 i7 W);have D5:=Zh (fun W=>Q3 over i8 i9 W);have n1:=kQk fails;have n2:=kQk taken;have n3:=kQk passes;have n4:=kQk fires;have n5:=kQk over;obtain ⟨P1,h1⟩:∃ A:ByteArray,⟨(numL fails).toArray⟩=A:=⟨_,rfl⟩;have s1:P1.size=(numL fails).length:=by rw [<- h1,mk_size]
     rw [h1] at D1;obtain ⟨P2,h2⟩:∃ A:ByteArray,⟨(numL taken).toArray⟩=A:=⟨_,rfl⟩;have s2:P2.size=(numL taken).length:=by rw [<- h2,mk_size]
     rw [h2] at D2;obtain ⟨P3,h3⟩:∃ A:ByteArray,⟨(numL passes).toArray⟩=A:=⟨_,rfl⟩;have s3:P3.size=(numL passes).length:=by rw [<- h3,mk_size]
     rw [h3] at D3;obtain ⟨P4,h4⟩:∃ A:ByteArray,⟨(numL fires).toArray⟩=A:=⟨_,rfl⟩;have s4:P4.size=(numL fires).length:=by rw [<- h4,mk_size]
     rw [h4] at D4;obtain ⟨P5,h5⟩:∃ A:ByteArray,⟨(numL over).toArray⟩=A:=⟨_,rfl⟩;have s5:P5.size=(numL over).length:=by rw [<- h5,mk_size]
     rw [h5] at D5;have HN:Hid (B++P1++P2++P3++P4++P5=⟨(defL d.dp++((pack ol.length++ops.flatMap offL)++((pack il.length++ips.flatMap jQi)++(numL fails++(numL taken++(numL passes++(numL fires++numL over))))))).toArray⟩):=Zh (by rw [hA,<- HO2'.out,<- HO1'.out,<- h1,<- h2,<- h3,<- h4,<- h5];exact Xk (by simp));have b0:B.size<=1000000000:=by omega
     have b1:P1.size<=10:=by omega
     have b2:P2.size<=10:=by omega
     have b3:P3.size<=10:=by omega
     have b4:P4.size<=10:=by omega
     have b5:P5.size<=10:=by omega
     clear h1 h2 h3 h4 h5 s1 s2 s3 s4 s5 HA hA sB n1 n2 n3 n4 n5;go_upto_region 16 with fail
     refine Tryst2.wp_region_text 21 (by kernel_rfl) (by kernel_rfl) ?_
     iterate 21 ((first | refine Tryst2.TW.skip (by rfl) ?_ | (refine' Tryst2.TW.op _ ?_ (by rfl) ?_;rotate_left;focus (intro w' hg;obtain ⟨hcg,hfg,hsg⟩:=YG hg;first | (go_simp;done) | (go_simp;with_reducible rfl) | (go_simp;rw [if_neg (by omega),Tryst2.stepV_value];refine ⟨.refl _,?_⟩;with_reducible rfl) | (go_simp;(first | go_at_call 47 | go_at_call 45 | go_at_call 44 | go_at_call 43 | go_at_call 46 | go_at_call 59 | go_at_call 49 | go_at_call 104);(first | with_reducible refine (D1.out _).mono ?_ | with_reducible refine (D2.out _).mono ?_ | with_reducible refine (D3.out _).mono ?_ | with_reducible refine (D4.out _).mono ?_ | with_reducible refine (D5.out _).mono ?_ | with_reducible refine (D6.out _).mono ?_);rintro e w5 ⟨rfl,hb5⟩;refine ⟨hb5,?_⟩;with_reducible rfl))));simp only [Act.put,List.setIfInBounds_toArray,List.set_cons_zero,List.set_cons_succ])
     intro w' hg;obtain ⟨hcg,hfg,hsg⟩:=YG hg
     try change wpList _ _ _ [] _ _
     have HB9:=Zh (Qk (Tryst2.Grow.below hg (.refl _ _)) HWW.out);clear hg hcg hfg hsg;go_wp2_with fail;go_ret;exact ⟨congrArg (fun z=>Ending.returned (.string z)) HN.out,HB9.out⟩
