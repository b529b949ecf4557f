import Derived.Test.YtcbicdencgjfiaaGreatDoorEyeI
set_option linter.all false
set_option maxHeartbeats 4000000
set_option maxRecDepth 20000
namespace Go.Proofs.YtcbicdencgjfiaaGreatDoor
open Go Go.RowKit Tryst
@[local go_sem] theorem idp5a (a b c d e:Value) (w:World):(Instr.index 223 (.agg #[a,b,c,d,e]) (.int .i64 0)).run Tryz.prog w=.ok a w:=by kernel_rfl
@[local go_sem] theorem idp5b (a b c d e:Value) (w:World):(Instr.index 223 (.agg #[a,b,c,d,e]) (.int .i64 1)).run Tryz.prog w=.ok b w:=by kernel_rfl
@[local go_sem] theorem idp5c (a b c d e:Value) (w:World):(Instr.index 223 (.agg #[a,b,c,d,e]) (.int .i64 2)).run Tryz.prog w=.ok c w:=by kernel_rfl
@[local go_sem] theorem idp5d (a b c d e:Value) (w:World):(Instr.index 223 (.agg #[a,b,c,d,e]) (.int .i64 3)).run Tryz.prog w=.ok d w:=by kernel_rfl
@[local go_sem] theorem idp5e (a b c d e:Value) (w:World):(Instr.index 223 (.agg #[a,b,c,d,e]) (.int .i64 4)).run Tryz.prog w=.ok e w:=by kernel_rfl
structure SubM (S:Nat->Prop) (w:World) (x:SubB):Prop where
 d:DM S w x.d
 o:LM offK S w x.oa x.oc x.ol
 i:LM Kb S w x.ia x.ic x.il
def subK:EK SubB where
 T:=68
 k:=15
 cells:=SubB.cells
 val:=SubB.agg
 E:=SubM
 len:=fun y=>rfl
 one:=subF.one
 keep:=fun h hk hz=>⟨⟨h.d.g.keep hk hz,h.d.w.keep hk hz⟩,h.o.keep hk hz,h.i.keep hk hz⟩
def qQH:Nat->List UInt8 × Bool->List UInt8 × Bool
 | 0,s=>s
 | k+1,s=>(numR (qQH k s)).2
def qQc:Nat->List UInt8 × Bool->List Int
 | 0,_=>[]
 | k+1,s=>qQc k s++[(numR (qQH k s)).1]
theorem SubM.step {w W W':World} {b:Nat} {x:SubB} (h:SubM (fun g=>w.heap.size+1 < g) W x) (hb:b < w.heap.size) (h2:Oth b W W') (i:Nat) (v:Value):SubM (fun g=>w.heap.size+1 < g) (W'.setCell ⟨w.heap.size+1,i,none⟩ v) x:=⟨⟨h.d.g.step hb h2 i v,h.d.w.step hb h2 i v⟩,h.o.step hb h2 i v,h.i.step hb h2 i v⟩
theorem SubM.fin {w W:World} {x:SubB} (h:SubM (fun g=>w.heap.size+1 < g) W x) (us:List Value):SubM (fun g=>w.heap.size<=g) (Yq W w.heap.size 0 us) x:=⟨⟨h.d.g.fin us,h.d.w.fin us⟩,h.o.fin us,h.i.fin us⟩
def EsR (W0 w:World) (b:Nat) (z pre:List Value) (s:List UInt8 × Bool) (x:SubB) (i:Value) (wr:World):Prop:=∃ zs:List Int,zs.length<=5/\i=.int .i64 (zs.length:Nat)/\Hid (ED W0 w b 68 z (qQH zs.length s) (pre++(zs.map (Value.int .i64)++List.replicate (5 - zs.length) (.int .i64 0))) wr)/\Hid (SubM (fun g=>w.heap.size+1 < g) wr x)/\Hid (zs=qQc zs.length s)
theorem jYm {W0 w:World} {b:Nat} {s:List UInt8 × Bool} (h:EyeS W0 b s w) (hM:MaxW W0) :
  Calls Tryz.prog 98 #[.pointer (some ⟨b,0,none⟩)] w (TkR subK SubB.p W0 b (subR s) w):=by
 have D0:=Zh (ED.start (T:=68) (z:=[.string ⟨#[]⟩,.slice none 0 0,.slice none 0 0,.string ⟨#[]⟩,.string ⟨#[]⟩,.int .i64 0,.int .i64 0,.int .i64 0,.slice none 0 0,.slice none 0 0,.int .i64 0,.int .i64 0,.int .i64 0,.int .i64 0,.int .i64 0]) h);have HM:=Zh hM;have hbw:=h.v.lt;clear h hM;go_enter Tryz.func98,Tryz.ntmps98;go_wp2_with fail;refine (vJk D0.out.eye HM.out).mono ?_;rintro e w1 ⟨y1,rfl,m1,p1,h1,o1⟩;obtain ⟨nm1,ga1,gl1,gc1,wa1,wl1,wc1,ky1,⟨kd1,dp1,dn1,dw1⟩⟩:=y1;dsimp only [strK,intK,idK,Yp,defK,DB.agg];have P1:=Zh p1;have hv1:=D0.out.vv.oth o1 (by have:=D0.out.hb;omega);have VV1:=Zh hv1;have hf1:=hv1.fz;have hl1:=hv1.lt;have D1:=Zh (D0.out.steps h1 o1 0 [.string nm1,.slice ga1 gl1.length gc1,.slice wa1 wl1.length wc1,.string ky1,.string kd1,.int .i64 dp1,.int .i64 dn1,.int .i64 dw1]);have hlt1:=D0.out.vv.lt;have LG0:=Zh ((LM.keep (show DM _ _ _ from m1).g (S':=fun g=>w.heap.size+1 < g) (fun g hg _=>⟨rfl,Nat.lt_of_lt_of_le hlt1 hg⟩) (Nat.le_refl _)).puts 0 [.string nm1,.slice ga1 gl1.length gc1,.slice wa1 wl1.length wc1,.string ky1,.string kd1,.int .i64 dp1,.int .i64 dn1,.int .i64 dw1]);have LW0:=Zh ((LM.keep (show DM _ _ _ from m1).w (S':=fun g=>w.heap.size+1 < g) (fun g hg _=>⟨rfl,Nat.lt_of_lt_of_le hlt1 hg⟩) (Nat.le_refl _)).puts 0 [.string nm1,.slice ga1 gl1.length gc1,.slice wa1 wl1.length wc1,.string ky1,.string kd1,.int .i64 dp1,.int .i64 dn1,.int .i64 dw1]);clear p1 h1 o1 m1 D0 hv1;obtain ⟨x0,x1,x2,x3,x4,x5,x6,x7,x8,x9,x10,x11,x12,x13,x14⟩:=v15 (VV1.out);go_wp2_with fail;clear VV1 hf1 hl1 x0 x1 x2 x3 x4 x5 x6 x7 x8 x9 x10 x11 x12 x13 x14;refine (vJ6 D1.out.eye).mono ?_;rintro e w2 ⟨v2,y2,rfl,hr2,m2,p2,h2,o2⟩;have P2:=Zh p2;have hf2:=D1.out.fz o2 8;have hk2:=D1.out.cl o2 8 rfl;have D2:=Zh (D1.out.step h2 o2 8 v2);obtain ⟨a2,c2,hv2,hl2⟩:=LM.of (X:=offK) (S:=fun g=>w.heap.size+1 < g) (by decide) hr2 m2 (fun g hg=>Nat.lt_of_lt_of_le D1.out.vv.lt hg);subst hv2;have LG1:=Zh (LG0.out.step hbw o2 8 (.slice a2 y2.length c2));clear LG0;have LW1:=Zh (LW0.out.step hbw o2 8 (.slice a2 y2.length c2));clear LW0;have LB0:=Zh (hl2.put 8 (.slice a2 y2.length c2));clear p2 h2 o2 m2 D1 hr2 hl2;go_wp2_with fail;clear hf2 hk2;refine (zJW D2.out.eye).mono ?_;rintro e w3 ⟨v3,y3,rfl,hr3,m3,p3,h3,o3⟩;have P3:=Zh p3;have hf3:=D2.out.fz o3 9;have hk3:=D2.out.cl o3 9 rfl;have D3:=Zh (D2.out.step h3 o3 9 v3);obtain ⟨a3,c3,hv3,hl3⟩:=LM.of (X:=Kb) (S:=fun g=>w.heap.size+1 < g) (by decide) hr3 m3 (fun g hg=>Nat.lt_of_lt_of_le D2.out.vv.lt hg);subst hv3;have LG2:=Zh (LG1.out.step hbw o3 9 (.slice a3 y3.length c3));clear LG1;have LW2:=Zh (LW1.out.step hbw o3 9 (.slice a3 y3.length c3));clear LW1;have LB1:=Zh (LB0.out.step hbw o3 9 (.slice a3 y3.length c3));clear LB0;have LC0:=Zh (hl3.put 9 (.slice a3 y3.length c3));clear p3 h3 o3 m3 D2 hr3 hl3;go_wp2_with fail;clear hf3 hk3;go_loopw [25] (fun i wr=>EsR W0 w b [.string ⟨#[]⟩,.slice none 0 0,.slice none 0 0,.string ⟨#[]⟩,.string ⟨#[]⟩,.int .i64 0,.int .i64 0,.int .i64 0,.slice none 0 0,.slice none 0 0,.int .i64 0,.int .i64 0,.int .i64 0,.int .i64 0,.int .i64 0] [.string nm1,.slice ga1 gl1.length gc1,.slice wa1 wl1.length wc1,.string ky1,.string kd1,.int .i64 dp1,.int .i64 dn1,.int .i64 dw1,.slice a2 y2.length c2,.slice a3 y3.length c3] (Q0 Z0 (Q0 offR (defR s).2).2).2 (SubB.mk ⟨nm1,ga1,gl1,gc1,wa1,wl1,wc1,ky1,⟨kd1,dp1,dn1,dw1⟩⟩ a2 y2 c2 a3 y3 c3 0 0 0 0 0) i wr) (fun i _=>5 - (intOf i).toNat)
 case atStart=>exact ⟨[],by decide,rfl,Zh D3.out,Zh ⟨⟨LG2.out,LW2.out⟩,LB1.out,LC0.out⟩,Zh rfl⟩
 case round=>
  clear D3 LG2 LW2 LB1 LC0;obtain ⟨wo,rfl⟩:∃ wo,wo=wr:=⟨_,rfl⟩;obtain ⟨zs,hk,rfl,HD,HP,HZ⟩:=hrel
  rcases zs with _ | ⟨z1,_ | ⟨z2,_ | ⟨z3,_ | ⟨z4,_ | ⟨z5,_ | ⟨z6,zs⟩⟩⟩⟩⟩⟩
  ·
   simp only [List.length_cons,List.length_nil,Nat.zero_add,Nat.reduceAdd,Nat.reduceSub,List.map_cons,List.map_nil,List.replicate,List.cons_append,List.nil_append,List.append_nil,Int.cast_ofNat_Int] at HD HZ ⊢;go_wp2_with fail;refine (Jy HD.out.eye).mono ?_;rintro e w2 ⟨y,rfl,m,p,h,o⟩;dsimp only [intK];have hf:=HD.out.fz o 10;have hc:=HD.out.cl o 10 rfl;have hp:y=(numR (qQH 0 (Q0 Z0 (Q0 offR (defR s).2).2).2)).1:=p;have HD2:=Zh (HD.out.step h o 10 (.int .i64 y));have HP2:=Zh (HP.out.step hbw o 10 (.int .i64 y))
   have HZ2:Hid ([y]=qQc 1 (Q0 Z0 (Q0 offR (defR s).2).2).2):=Zh (by
    show []++[y]=qQc 0 _++[(numR (qQH 0 _)).1];rw [<- HZ.out,hp])
   clear hp p h o m HD HP HZ;go_wp2_with fail;clear hf hc;go_roundw
   case rel=>exact ⟨[y],by simp,by go_num,Zh HD2.out,HP2,HZ2⟩
   case measure=>simp [intOf]<;>omega
  ·
   simp only [List.length_cons,List.length_nil,Nat.zero_add,Nat.reduceAdd,Nat.reduceSub,List.map_cons,List.map_nil,List.replicate,List.cons_append,List.nil_append,List.append_nil,Int.cast_ofNat_Int] at HD HZ ⊢;go_wp2_with fail;refine (Jy HD.out.eye).mono ?_;rintro e w2 ⟨y,rfl,m,p,h,o⟩;dsimp only [intK];have hf:=HD.out.fz o 11;have hc:=HD.out.cl o 11 rfl;have hp:y=(numR (qQH 1 (Q0 Z0 (Q0 offR (defR s).2).2).2)).1:=p;have HD2:=Zh (HD.out.step h o 11 (.int .i64 y));have HP2:=Zh (HP.out.step hbw o 11 (.int .i64 y))
   have HZ2:Hid ([z1,y]=qQc 2 (Q0 Z0 (Q0 offR (defR s).2).2).2):=Zh (by
    show [z1]++[y]=qQc 1 _++[(numR (qQH 1 _)).1];rw [<- HZ.out,hp])
   clear hp p h o m HD HP HZ;go_wp2_with fail;clear hf hc;go_roundw
   case rel=>exact ⟨[z1,y],by simp,by go_num,Zh HD2.out,HP2,HZ2⟩
   case measure=>simp [intOf]<;>omega
  ·
   simp only [List.length_cons,List.length_nil,Nat.zero_add,Nat.reduceAdd,Nat.reduceSub,List.map_cons,List.map_nil,List.replicate,List.cons_append,List.nil_append,List.append_nil,Int.cast_ofNat_Int] at HD HZ ⊢;go_wp2_with fail;refine (Jy HD.out.eye).mono ?_;rintro e w2 ⟨y,rfl,m,p,h,o⟩;dsimp only [intK];have hf:=HD.out.fz o 12;have hc:=HD.out.cl o 12 rfl;have hp:y=(numR (qQH 2 (Q0 Z0 (Q0 offR (defR s).2).2).2)).1:=p;have HD2:=Zh (HD.out.step h o 12 (.int .i64 y));have HP2:=Zh (HP.out.step hbw o 12 (.int .i64 y))
   have HZ2:Hid ([z1,z2,y]=qQc 3 (Q0 Z0 (Q0 offR (defR s).2).2).2):=Zh (by
    show [z1,z2]++[y]=qQc 2 _++[(numR (qQH 2 _)).1];rw [<- HZ.out,hp])
   clear hp p h o m HD HP HZ;go_wp2_with fail;clear hf hc;go_roundw
   case rel=>exact ⟨[z1,z2,y],by simp,by go_num,Zh HD2.out,HP2,HZ2⟩
   case measure=>simp [intOf]<;>omega
  ·
   simp only [List.length_cons,List.length_nil,Nat.zero_add,Nat.reduceAdd,Nat.reduceSub,List.map_cons,List.map_nil,List.replicate,List.cons_append,List.nil_append,List.append_nil,Int.cast_ofNat_Int] at HD HZ ⊢;go_wp2_with fail;refine (Jy HD.out.eye).mono ?_;rintro e w2 ⟨y,rfl,m,p,h,o⟩;dsimp only [intK];have hf:=HD.out.fz o 13;have hc:=HD.out.cl o 13 rfl;have hp:y=(numR (qQH 3 (Q0 Z0 (Q0 offR (defR s).2).2).2)).1:=p;have HD2:=Zh (HD.out.step h o 13 (.int .i64 y));have HP2:=Zh (HP.out.step hbw o 13 (.int .i64 y))
   have HZ2:Hid ([z1,z2,z3,y]=qQc 4 (Q0 Z0 (Q0 offR (defR s).2).2).2):=Zh (by
    show [z1,z2,z3]++[y]=qQc 3 _++[(numR (qQH 3 _)).1];rw [<- HZ.out,hp])
   clear hp p h o m HD HP HZ;go_wp2_with fail;clear hf hc;go_roundw
   case rel=>exact ⟨[z1,z2,z3,y],by simp,by go_num,Zh HD2.out,HP2,HZ2⟩
   case measure=>simp [intOf]<;>omega
  ·
   simp only [List.length_cons,List.length_nil,Nat.zero_add,Nat.reduceAdd,Nat.reduceSub,List.map_cons,List.map_nil,List.replicate,List.cons_append,List.nil_append,List.append_nil,Int.cast_ofNat_Int] at HD HZ ⊢;go_wp2_with fail;refine (Jy HD.out.eye).mono ?_;rintro e w2 ⟨y,rfl,m,p,h,o⟩;dsimp only [intK];have hf:=HD.out.fz o 14;have hc:=HD.out.cl o 14 rfl;have hp:y=(numR (qQH 4 (Q0 Z0 (Q0 offR (defR s).2).2).2)).1:=p;have HD2:=Zh (HD.out.step h o 14 (.int .i64 y));have HP2:=Zh (HP.out.step hbw o 14 (.int .i64 y))
   have HZ2:Hid ([z1,z2,z3,z4,y]=qQc 5 (Q0 Z0 (Q0 offR (defR s).2).2).2):=Zh (by
    show [z1,z2,z3,z4]++[y]=qQc 4 _++[(numR (qQH 4 _)).1];rw [<- HZ.out,hp])
   clear hp p h o m HD HP HZ;go_wp2_with fail;clear hf hc;go_roundw
   case rel=>exact ⟨[z1,z2,z3,z4,y],by simp,by go_num,Zh HD2.out,HP2,HZ2⟩
   case measure=>simp [intOf]<;>omega
  ·
   simp only [List.length_cons,List.length_nil,Nat.zero_add,Nat.reduceAdd,Nat.reduceSub,List.map_cons,List.map_nil,List.replicate,List.cons_append,List.nil_append,List.append_nil,Int.cast_ofNat_Int] at HD HZ ⊢;have VV:=Zh HD.out.vv;have ZZ:=Zh HD.out.zz;have hgz:=HD.out.hb;obtain ⟨x0,x1,x2,x3,x4,x5,x6,x7,x8,x9,x10,x11,x12,x13,x14⟩:=v15 (VV.out);have zf:=ZZ.out.fz;have zl:=ZZ.out.lt;obtain ⟨u0,u1,u2,u3,u4,u5,u6,u7,u8,u9,u10,u11,u12,u13,u14⟩:=v15 (ZZ.out);go_wp2_with fail;refine bodyPost_ret (v:=(SubB.mk ⟨nm1,ga1,gl1,gc1,wa1,wl1,wc1,ky1,⟨kd1,dp1,dn1,dw1⟩⟩ a2 y2 c2 a3 y3 c3 z1 z2 z3 z4 z5).agg) (by simp [results,Tryz.results98,go_sem,SubB.agg, *]) rfl ?_;obtain ⟨q1,q2⟩:=HD.out.fin [.string nm1,.slice ga1 gl1.length gc1,.slice wa1 wl1.length wc1,.string ky1,.string kd1,.int .i64 dp1,.int .i64 dn1,.int .i64 dw1,.slice a2 y2.length c2,.slice a3 y3.length c3,.int .i64 z1,.int .i64 z2,.int .i64 z3,.int .i64 z4,.int .i64 z5];refine ⟨SubB.mk ⟨nm1,ga1,gl1,gc1,wa1,wl1,wc1,ky1,⟨kd1,dp1,dn1,dw1⟩⟩ a2 y2 c2 a3 y3 c3 z1 z2 z3 z4 z5,rfl,?_,?_,q1,q2⟩
   · have hm:=HP.out.fin [.string nm1,.slice ga1 gl1.length gc1,.slice wa1 wl1.length wc1,.string ky1,.string kd1,.int .i64 dp1,.int .i64 dn1,.int .i64 dw1,.slice a2 y2.length c2,.slice a3 y3.length c3,.int .i64 z1,.int .i64 z2,.int .i64 z3,.int .i64 z4,.int .i64 z5];exact ⟨hm.d,hm.o,hm.i⟩
   · have e1:DB.dp ⟨nm1,ga1,gl1,gc1,wa1,wl1,wc1,ky1,⟨kd1,dp1,dn1,dw1⟩⟩=_:=P1.out;have hz:=HZ.out;simp only [qQc,qQH,List.nil_append,List.cons_append,List.cons.injEq,and_true] at hz;obtain ⟨k1,k2,k3,k4,k5⟩:=hz;unfold SubB.p subR seqR;simp only [P2.out,P3.out,e1];rw [k1,k2,k3,k4,k5]
  · simp only [List.length_cons] at hk;omega
end Go.Proofs.YtcbicdencgjfiaaGreatDoor
namespace Go.Proofs.YtcbicdencgjfiaaGreatDoor
open Go Go.RowKit Tryst
theorem vJ9 {W0 w:World} {b:Nat} {s:List UInt8 × Bool} (h:EyeS W0 b s w) (hM:MaxW W0) :
  Calls Tryz.prog 97 #[.pointer (some ⟨b,0,none⟩),.func (.func 98) #[.pointer (some ⟨b,0,none⟩)] #[]] w (SoG subK SubB.p W0 b (Q0 subR s) w):=by
 have hbw:=h.v.lt;have CI:=Zh (qQ7 h);have hn64:=jQO s;have CE:=Zh (fun (w1:World) (s1:List UInt8 × Bool) (h1:EyeS W0 b s1 w1)=>jYm h1 hM);obtain ⟨F,hF⟩:∃ F,Q0 subR s=F:=⟨_,rfl⟩;rw [hF];unfold Q0 at hF;generalize (idR s).1=n at CI hn64 hF;generalize (idR s).2=s1 at CI hF;have HF:=Zh hF;clear h hF;obtain ⟨l1,d1⟩:=s1;simp only at HF;go_enter Tryz.func97,Tryz.ntmps97;go_wp2_with fail;refine CI.out.mono ?_;rintro e w1 ⟨rfl,h1,h2⟩;have H1:=Zh h1;have O1:=Zh h2;have hlen:=h1.n;simp only at hlen;clear h1 h2 CI;obtain ⟨hz,x0,x1,z0,z1⟩:=ebox H1.out;simp only at x0 x1
 by_cases hgt:l1.length < n
 case' pos=>
  have b1:decide ((l1.length:Int) < (n:Int))=true:=by simpa using hgt
  have HF2:Hid (Yv subR n (l1,true)=F):=Zh (by rw [<- HF.out,if_pos hgt]);go_wp2_with fail;refine Qg (fun v=>Hid (EyeS W0 b (l1,true) v)/\Hid (Oth b w v)) ⟨H1.out.mark,O1.out.set _⟩ ?_;rintro Y ⟨HS,HO⟩;have HI:Hid (SoI subK SubB.p subR W0 w b F n [] (l1,true) (.slice none 0 0) Y):=Zh (SoI.start HF2.out HS.out HO.out (.inl rfl));clear b1 HF2 HS HO
 case' neg=>
  have b1:decide ((l1.length:Int) < (n:Int))=false:=by simpa using hgt
  have b2:¬ (l1.length:Int) < (n:Int):=by omega
  have HF2:Hid (Yv subR n (l1,d1)=F):=Zh (by rw [<- HF.out,if_neg hgt]);go_wp2_with fail;have HI:Hid (SoI subK SubB.p subR W0 w b F n [] (l1,d1) (.slice none 0 0) w1):=Zh (SoI.start HF2.out H1.out O1.out (.inr (by omega)));clear b1 b2 HF2
 all_goals
  clear H1 O1 hz x0 x1 z0 z1 HF hgt;go_loopw [5,6] (fun n v wr=>SoLG subK SubB.p subR W0 w b F n v wr) (fun n _ _=>(intOf n).toNat)
  case atStart=>exact ⟨n,[],_,rfl,hn64,HI⟩
  case round=>
   clear HI;obtain ⟨m,ys,s,rfl,hm64,HI⟩:=hrel;obtain ⟨wo,rfl⟩:∃ wo,wo=wr:=⟨_,rfl⟩;obtain ⟨hz,x0,x1,z0,z1⟩:=ebox HI.out.eye;obtain ⟨l,d⟩:=s;simp only at x0 x1;cases m with
   | zero=>
    have HX:=Zh (HI.out.done (.inl rfl));have b4:((0:Nat):Int)=0:=rfl;clear HI;go_wp2_with fail;go_ret;exact HX.out
   | succ m=>
    have b5:decide ((0:Int) < ((m+1:Nat):Int))=true:=by simp
    cases d with
    | true=>
     have HX:=Zh (HI.out.done (.inr rfl));clear HI;go_wp2_with fail;go_ret;exact HX.out
    | false=>
     have hfw:ys.length+(m+1)<=1500000:=by simpa using HI.out.few
     have CT:=Zh (CE.out _ _ HI.out.eye);go_wp2_with fail;refine CT.out.mono ?_;rintro e w2 ⟨y,rfl,hy,hp,hs,ho⟩;have HY:=Zh hy;have HP:=Zh hp;have HS:=Zh hs;have HO:=Zh ho;have HR:=Zh (HI.out.row.oth ho hbw);have hz1:=HI.out.oth.size;have hz2:=ho.size;clear hy hp hs ho CT x0 x1 z0 z1;have HG:=Zh (Var.new w2 (subK).T ((subK).cells y));have HLN:=Zh (show (ys.map (subK).cells).length=ys.length by rw [List.length_map]);have HC1:=Zh ((subK).one y);dsimp only [subK,SubB.agg] at HR HG HLN HC1 ⊢;go_wp2_with (at_builtin;refine Q8 subT rfl _ _ rfl w.heap.size u6 (ys.map (subK).cells) ys.length HLN.out rfl (HR.out.alloc _) ((subK).cells y) rfl HC1.out w2.heap.size rfl (fun j _=>HG.out.cell j) ?a3 ?a4 ?_)
     case a3=>omega
     case a4=>first | omega | (simp;omega)
     intro g' cap w3 hr hb hst hat _;have HI3:=Zh (HI.out.next hbw HY.out HP.out HS.out HO.out hr hb hst hat);clear hr hb hst hat HI HY HP HS HO HR HG HLN HC1;go_wp2_with fail;go_roundw
     case rel=>exact ⟨m,ys++[y],_,by go_num,by omega,HI3⟩
     case measure=>simp [intOf]<;>omega
structure RtE (S:Nat->Prop) (w:World) (x:RtB):Prop where
 t:LM topK S w x.ta x.tc x.tl
 l:LM Z9 S w x.la x.lc x.ll
 s:LM subK S w x.sa x.sc x.sl
 u:LM outK S w x.ua x.uc x.ul
 g:LM outK S w x.ga x.gc x.gl
 d:LM Kk S w x.da x.dc x.dl
theorem RtE.keep {S S':Nat->Prop} {w w':World} {x:RtB} (h:RtE S w x) (hk:∀ g,S g->g < w.heap.size->w'.heap[g]?=w.heap[g]?/\S' g) (hz:w.heap.size<=w'.heap.size):RtE S' w' x:=⟨h.t.keep hk hz,h.l.keep hk hz,h.s.keep hk hz,h.u.keep hk hz,h.g.keep hk hz,h.d.keep hk hz⟩
def rtK:EK RtB where
 T:=28
 k:=8
 cells:=RtB.cells
 val:=RtB.agg
 E:=RtE
 len:=fun y=>rfl
 one:=fun y u hu=>by
  simp [RtB.cells] at hu
  rcases hu with rfl | rfl | rfl | rfl | rfl | rfl | rfl | rfl<;>rfl
 keep:=fun h hk hz=>h.keep hk hz
theorem xQ2 {W0 w:World} {b:Nat} {s:List UInt8 × Bool} (h:EyeS W0 b s w) (hM:MaxW W0) :
  Calls Tryz.prog 41 #[.pointer (some ⟨b,0,none⟩)] w (TkR rtK RtB.p W0 b (rtR s) w):=by
 have D0:=Zh (ED.start (T:=28) (z:=[.int .i64 0,.slice none 0 0,.slice none 0 0,.slice none 0 0,.int .i64 0,.slice none 0 0,.slice none 0 0,.slice none 0 0]) h);have HM:=Zh hM;have hbw:=h.v.lt;clear h hM;go_enter Tryz.func41,Tryz.ntmps41;go_wp2_with fail;refine (Jy D0.out.eye).mono ?_;rintro e w1 ⟨y1,rfl,m1,p1,h1,o1⟩;dsimp only [strK,intK,idK,Yp];have P1:=Zh p1;have hf1:=D0.out.fz o1 0;have hk1:=D0.out.cl o1 0 rfl;have D1:=Zh (D0.out.step h1 o1 0 (.int .i64 y1));clear p1 h1 o1 m1 D0;go_wp2_with fail;clear hf1 hk1;refine (zJO D1.out.eye).mono ?_;rintro e w2 ⟨v2,y2,rfl,hr2,m2,p2,h2,o2⟩;have P2:=Zh p2;have hf2:=D1.out.fz o2 1;have hk2:=D1.out.cl o2 1 rfl;have D2:=Zh (D1.out.step h2 o2 1 v2);obtain ⟨a2,c2,hv2,hl2⟩:=LM.of (X:=topK) (S:=fun g=>w.heap.size+1 < g) (by decide) hr2 m2 (fun g hg=>Nat.lt_of_lt_of_le D1.out.vv.lt hg);subst hv2;have LB0:=Zh (hl2.put 1 (.slice a2 y2.length c2));clear p2 h2 o2 m2 D1 hr2 hl2;go_wp2_with fail;clear hf2 hk2;refine (vJC D2.out.eye).mono ?_;rintro e w3 ⟨v3,y3,rfl,hr3,m3,p3,h3,o3⟩;have P3:=Zh p3;have hf3:=D2.out.fz o3 2;have hk3:=D2.out.cl o3 2 rfl;have D3:=Zh (D2.out.step h3 o3 2 v3);obtain ⟨a3,c3,hv3,hl3⟩:=LM.of (X:=Z9) (S:=fun g=>w.heap.size+1 < g) (by decide) hr3 m3 (fun g hg=>Nat.lt_of_lt_of_le D2.out.vv.lt hg);subst hv3;have LB1:=Zh (LB0.out.step hbw o3 2 (.slice a3 y3.length c3));clear LB0;have LC0:=Zh (hl3.put 2 (.slice a3 y3.length c3));clear p3 h3 o3 m3 D2 hr3 hl3;go_wp2_with fail;clear hf3 hk3;refine (vJ9 D3.out.eye HM.out).mono ?_;rintro e w4 ⟨v4,y4,rfl,hr4,m4,p4,h4,o4⟩;have P4:=Zh p4;have hf4:=D3.out.fz o4 3;have hk4:=D3.out.cl o4 3 rfl;have D4:=Zh (D3.out.step h4 o4 3 v4);obtain ⟨a4,c4,hv4,hl4⟩:=LM.of (X:=subK) (S:=fun g=>w.heap.size+1 < g) (by decide) hr4 m4 (fun g hg=>Nat.lt_of_lt_of_le D3.out.vv.lt hg);subst hv4;have LB2:=Zh (LB1.out.step hbw o4 3 (.slice a4 y4.length c4));clear LB1;have LC1:=Zh (LC0.out.step hbw o4 3 (.slice a4 y4.length c4));clear LC0;have LD0:=Zh (hl4.put 3 (.slice a4 y4.length c4));clear p4 h4 o4 m4 D3 hr4 hl4;go_wp2_with fail;clear hf4 hk4;refine (Jy D4.out.eye).mono ?_;rintro e w5 ⟨y5,rfl,m5,p5,h5,o5⟩;dsimp only [strK,intK,idK,Yp];have P5:=Zh p5;have hf5:=D4.out.fz o5 4;have hk5:=D4.out.cl o5 4 rfl;have D5:=Zh (D4.out.step h5 o5 4 (.int .i64 y5));have LB3:=Zh (LB2.out.step hbw o5 4 (.int .i64 y5));clear LB2;have LC2:=Zh (LC1.out.step hbw o5 4 (.int .i64 y5));clear LC1;have LD1:=Zh (LD0.out.step hbw o5 4 (.int .i64 y5));clear LD0;clear p5 h5 o5 m5 D4;go_wp2_with fail;clear hf5 hk5;refine (xQy D5.out.eye).mono ?_;rintro e w6 ⟨v6,y6,rfl,hr6,m6,p6,h6,o6⟩;have P6:=Zh p6;have hf6:=D5.out.fz o6 5;have hk6:=D5.out.cl o6 5 rfl;have D6:=Zh (D5.out.step h6 o6 5 v6);obtain ⟨a6,c6,hv6,hl6⟩:=LM.of (X:=outK) (S:=fun g=>w.heap.size+1 < g) (by decide) hr6 m6 (fun g hg=>Nat.lt_of_lt_of_le D5.out.vv.lt hg);subst hv6;have LB4:=Zh (LB3.out.step hbw o6 5 (.slice a6 y6.length c6));clear LB3;have LC3:=Zh (LC2.out.step hbw o6 5 (.slice a6 y6.length c6));clear LC2;have LD2:=Zh (LD1.out.step hbw o6 5 (.slice a6 y6.length c6));clear LD1;have LF0:=Zh (hl6.put 5 (.slice a6 y6.length c6));clear p6 h6 o6 m6 D5 hr6 hl6;go_wp2_with fail;clear hf6 hk6;refine (xQy D6.out.eye).mono ?_;rintro e w7 ⟨v7,y7,rfl,hr7,m7,p7,h7,o7⟩;have P7:=Zh p7;have hf7:=D6.out.fz o7 6;have hk7:=D6.out.cl o7 6 rfl;have D7:=Zh (D6.out.step h7 o7 6 v7);obtain ⟨a7,c7,hv7,hl7⟩:=LM.of (X:=outK) (S:=fun g=>w.heap.size+1 < g) (by decide) hr7 m7 (fun g hg=>Nat.lt_of_lt_of_le D6.out.vv.lt hg);subst hv7;have LB5:=Zh (LB4.out.step hbw o7 6 (.slice a7 y7.length c7));clear LB4;have LC4:=Zh (LC3.out.step hbw o7 6 (.slice a7 y7.length c7));clear LC3;have LD3:=Zh (LD2.out.step hbw o7 6 (.slice a7 y7.length c7));clear LD2;have LF1:=Zh (LF0.out.step hbw o7 6 (.slice a7 y7.length c7));clear LF0
 have LG0:=Zh (hl7.put 6 (.slice a7 y7.length c7));clear p7 h7 o7 m7 D6 hr7 hl7;go_wp2_with fail;clear hf7 hk7;refine (vJ7 D7.out.eye).mono ?_;rintro e w8 ⟨v8,y8,rfl,hr8,m8,p8,h8,o8⟩;have P8:=Zh p8;have hf8:=D7.out.fz o8 7;have hgz:=D7.out.hb;have D8:=Zh (D7.out.step h8 o8 7 v8);have VV:Hid (Var w8 (w.heap.size+1) 28 [.int .i64 y1,.slice a2 y2.length c2,.slice a3 y3.length c3,.slice a4 y4.length c4,.int .i64 y5,.slice a6 y6.length c6,.slice a7 y7.length c7,.slice none 0 0]):=Zh (D7.out.vv.oth o8 (by omega));have ZZ:=Zh (D7.out.zz.oth o8 (by omega));obtain ⟨a8,c8,hv8,hl8⟩:=LM.of (X:=Kk) (S:=fun g=>w.heap.size+1 < g) (by decide) hr8 m8 (fun g hg=>Nat.lt_of_lt_of_le D7.out.vv.lt hg);subst hv8;have LB6:=Zh (LB5.out.step hbw o8 7 (.slice a8 y8.length c8));clear LB5;have LC5:=Zh (LC4.out.step hbw o8 7 (.slice a8 y8.length c8));clear LC4;have LD4:=Zh (LD3.out.step hbw o8 7 (.slice a8 y8.length c8));clear LD3;have LF2:=Zh (LF1.out.step hbw o8 7 (.slice a8 y8.length c8));clear LF1;have LG1:=Zh (LG0.out.step hbw o8 7 (.slice a8 y8.length c8));clear LG0;have LH0:=Zh (hl8.put 7 (.slice a8 y8.length c8));clear p8 h8 o8 m8 D7 hr8 hl8;obtain ⟨x0,x1,x2,x3,x4,x5,x6,x7⟩:=v8 (VV.out);have zf:=ZZ.out.fz;have zl:=ZZ.out.lt;obtain ⟨u0,u1,u2,u3,u4,u5,u6,u7⟩:=v8 (ZZ.out);go_wp2_with fail;refine bodyPost_ret (v:=.agg #[.int .i64 y1,.slice a2 y2.length c2,.slice a3 y3.length c3,.slice a4 y4.length c4,.int .i64 y5,.slice a6 y6.length c6,.slice a7 y7.length c7,.slice a8 y8.length c8]) (by simp [results,Tryz.results41,go_sem, *]) rfl ?_;obtain ⟨q1,q2⟩:=D8.out.fin [.int .i64 y1,.slice a2 y2.length c2,.slice a3 y3.length c3,.slice a4 y4.length c4,.int .i64 y5,.slice a6 y6.length c6,.slice a7 y7.length c7,.slice a8 y8.length c8];refine ⟨⟨y1,a2,y2,c2,a3,y3,c3,a4,y4,c4,y5,a6,y6,c6,a7,y7,c7,a8,y8,c8⟩,rfl,⟨(LB6.out.fin [.int .i64 y1,.slice a2 y2.length c2,.slice a3 y3.length c3,.slice a4 y4.length c4,.int .i64 y5,.slice a6 y6.length c6,.slice a7 y7.length c7,.slice a8 y8.length c8]),(LC5.out.fin [.int .i64 y1,.slice a2 y2.length c2,.slice a3 y3.length c3,.slice a4 y4.length c4,.int .i64 y5,.slice a6 y6.length c6,.slice a7 y7.length c7,.slice a8 y8.length c8]),(LD4.out.fin [.int .i64 y1,.slice a2 y2.length c2,.slice a3 y3.length c3,.slice a4 y4.length c4,.int .i64 y5,.slice a6 y6.length c6,.slice a7 y7.length c7,.slice a8 y8.length c8]),(LF2.out.fin [.int .i64 y1,.slice a2 y2.length c2,.slice a3 y3.length c3,.slice a4 y4.length c4,.int .i64 y5,.slice a6 y6.length c6,.slice a7 y7.length c7,.slice a8 y8.length c8]),(LG1.out.fin [.int .i64 y1,.slice a2 y2.length c2,.slice a3 y3.length c3,.slice a4 y4.length c4,.int .i64 y5,.slice a6 y6.length c6,.slice a7 y7.length c7,.slice a8 y8.length c8]),(LH0.out.fin [.int .i64 y1,.slice a2 y2.length c2,.slice a3 y3.length c3,.slice a4 y4.length c4,.int .i64 y5,.slice a6 y6.length c6,.slice a7 y7.length c7,.slice a8 y8.length c8])⟩,?_,q1,q2⟩;unfold RtB.p rtR seqR;simp only [P1.out,P2.out,P3.out,P4.out,P5.out,P6.out,P7.out,P8.out]
