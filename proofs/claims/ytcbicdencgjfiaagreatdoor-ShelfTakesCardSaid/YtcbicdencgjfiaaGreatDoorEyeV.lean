import Derived.Test.YtcbicdencgjfiaaGreatDoorEyeT
import Derived.Test.YtcbicdencgjfiaaGreatDoorLayR
set_option linter.all false
set_option maxHeartbeats 4000000
set_option maxRecDepth 20000
namespace Go.Proofs.YtcbicdencgjfiaaGreatDoor
open Go Go.RowKit Tryst
theorem xJi {W0 w:World} {b:Nat} {s:List UInt8 × Bool} (h:EyeS W0 b s w) :
  Calls Tryz.prog 102 #[.pointer (some ⟨b,0,none⟩)] w (TkR Kk DeadB.p W0 b (kQI s) w):=by
 have D0:=Zh (ED.start (T:=74) (z:=[.string ⟨#[]⟩,.string ⟨#[]⟩]) h);have hbw:=h.v.lt;clear h;go_enter Tryz.func102,Tryz.ntmps102;go_wp2_with fail;refine (jQ2 D0.out.eye).mono ?_;rintro e w1 ⟨y1,rfl,m1,p1,h1,o1⟩;dsimp only [strK,intK,idK,Yp];have P1:=Zh p1;have hf1:=D0.out.fz o1 0;have hk1:=D0.out.cl o1 0 rfl;have D1:=Zh (D0.out.step h1 o1 0 (.string y1));clear p1 h1 o1 m1 D0;go_wp2_with fail;clear hf1 hk1;refine (jQ2 D1.out.eye).mono ?_;rintro e w2 ⟨y2,rfl,m2,p2,h2,o2⟩;dsimp only [strK,intK,idK,Yp];have P2:=Zh p2;have hf2:=D1.out.fz o2 1;have hgz:=D1.out.hb;have D2:=Zh (D1.out.step h2 o2 1 (.string y2));have VV:Hid (Var w2 (w.heap.size+1) 74 [.string y1,.string ⟨#[]⟩]):=Zh (D1.out.vv.oth o2 (by omega));have ZZ:=Zh (D1.out.zz.oth o2 (by omega));clear p2 h2 o2 m2 D1;obtain ⟨x0,x1⟩:=v2 (VV.out);have zf:=ZZ.out.fz;have zl:=ZZ.out.lt;obtain ⟨u0,u1⟩:=v2 (ZZ.out);go_wp2_with fail;refine bodyPost_ret (v:=.agg #[.string y1,.string y2]) (by simp [results,Tryz.results102,go_sem, *]) rfl ?_;obtain ⟨q1,q2⟩:=D2.out.fin [.string y1,.string y2];refine ⟨⟨y1,y2⟩,rfl,trivial,?_,q1,q2⟩;unfold DeadB.p kQI seqR;simp only [P1.out,P2.out]
theorem xJJ {W0 w:World} {b:Nat} {s:List UInt8 × Bool} (h:EyeS W0 b s w) :
  Calls Tryz.prog 96 #[.pointer (some ⟨b,0,none⟩)] w (TkR Z9 LB.p W0 b (kQ0 s) w):=by
 have D0:=Zh (ED.start (T:=104) (z:=[.string ⟨#[]⟩,.int .u64 0,.int .i64 0]) h);have hbw:=h.v.lt;clear h;go_enter Tryz.func96,Tryz.ntmps96;go_wp2_with fail;refine (jQ2 D0.out.eye).mono ?_;rintro e w1 ⟨y1,rfl,m1,p1,h1,o1⟩;dsimp only [strK,intK,idK,Yp];have P1:=Zh p1;have hf1:=D0.out.fz o1 0;have hk1:=D0.out.cl o1 0 rfl;have D1:=Zh (D0.out.step h1 o1 0 (.string y1));clear p1 h1 o1 m1 D0;go_wp2_with fail;clear hf1 hk1;refine (vQd D1.out.eye).mono ?_;rintro e w2 ⟨y2,rfl,m2,p2,h2,o2⟩;dsimp only [strK,intK,idK,Yp];have P2:=Zh p2;have hf2:=D1.out.fz o2 1;have hk2:=D1.out.cl o2 1 rfl;have D2:=Zh (D1.out.step h2 o2 1 (.int .u64 (y2:Nat)));clear p2 h2 o2 m2 D1;go_wp2_with fail;clear hf2 hk2;refine (Jy D2.out.eye).mono ?_;rintro e w3 ⟨y3,rfl,m3,p3,h3,o3⟩;dsimp only [strK,intK,idK,Yp];have P3:=Zh p3;have hf3:=D2.out.fz o3 2;have hgz:=D2.out.hb;have D3:=Zh (D2.out.step h3 o3 2 (.int .i64 y3));have VV:Hid (Var w3 (w.heap.size+1) 104 [.string y1,.int .u64 (y2:Nat),.int .i64 0]):=Zh (D2.out.vv.oth o3 (by omega));have ZZ:=Zh (D2.out.zz.oth o3 (by omega));clear p3 h3 o3 m3 D2;obtain ⟨x0,x1,x2⟩:=v3 (VV.out);have zf:=ZZ.out.fz;have zl:=ZZ.out.lt;obtain ⟨u0,u1,u2⟩:=v3 (ZZ.out);go_wp2_with fail;refine bodyPost_ret (v:=.agg #[.string y1,.int .u64 (y2:Nat),.int .i64 y3]) (by simp [results,Tryz.results96,go_sem, *]) rfl ?_;obtain ⟨q1,q2⟩:=D3.out.fin [.string y1,.int .u64 (y2:Nat),.int .i64 y3];refine ⟨⟨y1,y2,y3⟩,rfl,trivial,?_,q1,q2⟩;unfold LB.p kQ0 seqR;simp only [P1.out,P2.out,P3.out]
theorem jYn {W0 w:World} {b:Nat} {s:List UInt8 × Bool} (h:EyeS W0 b s w) :
  Calls Tryz.prog 157 #[.pointer (some ⟨b,0,none⟩)] w (TkR offK OB.p W0 b (offR s) w):=by
 have D0:=Zh (ED.start (T:=126) (z:=[.string ⟨#[]⟩,.int .i64 0]) h);have hbw:=h.v.lt;clear h;go_enter Tryz.func157,Tryz.ntmps157;go_wp2_with fail;refine (jQ2 D0.out.eye).mono ?_;rintro e w1 ⟨y1,rfl,m1,p1,h1,o1⟩;dsimp only [strK,intK,idK,Yp];have P1:=Zh p1;have hf1:=D0.out.fz o1 0;have hk1:=D0.out.cl o1 0 rfl;have D1:=Zh (D0.out.step h1 o1 0 (.string y1));clear p1 h1 o1 m1 D0;go_wp2_with fail;clear hf1 hk1;refine (Jy D1.out.eye).mono ?_;rintro e w2 ⟨y2,rfl,m2,p2,h2,o2⟩;dsimp only [strK,intK,idK,Yp];have P2:=Zh p2;have hf2:=D1.out.fz o2 1;have hgz:=D1.out.hb;have D2:=Zh (D1.out.step h2 o2 1 (.int .i64 y2));have VV:Hid (Var w2 (w.heap.size+1) 126 [.string y1,.int .i64 0]):=Zh (D1.out.vv.oth o2 (by omega));have ZZ:=Zh (D1.out.zz.oth o2 (by omega));clear p2 h2 o2 m2 D1;obtain ⟨x0,x1⟩:=v2 (VV.out);have zf:=ZZ.out.fz;have zl:=ZZ.out.lt;obtain ⟨u0,u1⟩:=v2 (ZZ.out);go_wp2_with fail;refine bodyPost_ret (v:=.agg #[.string y1,.int .i64 y2]) (by simp [results,Tryz.results157,go_sem, *]) rfl ?_;obtain ⟨q1,q2⟩:=D2.out.fin [.string y1,.int .i64 y2];refine ⟨⟨y1,y2⟩,rfl,trivial,?_,q1,q2⟩;unfold OB.p offR seqR;simp only [P1.out,P2.out]
theorem xJW {W0 w:World} {b:Nat} {s:List UInt8 × Bool} (h:EyeS W0 b s w) :
  Calls Tryz.prog 200 #[.pointer (some ⟨b,0,none⟩)] w (TkR jQ1 KpB.p W0 b (kQE s) w):=by
 have D0:=Zh (ED.start (T:=155) (z:=[.int .i64 0,.int .u64 0,.int .i64 0]) h);have hbw:=h.v.lt;clear h;go_enter Tryz.func200,Tryz.ntmps200;go_wp2_with fail;refine (Jy D0.out.eye).mono ?_;rintro e w1 ⟨y1,rfl,m1,p1,h1,o1⟩;dsimp only [strK,intK,idK,Yp];have P1:=Zh p1;have hf1:=D0.out.fz o1 0;have hk1:=D0.out.cl o1 0 rfl;have D1:=Zh (D0.out.step h1 o1 0 (.int .i64 y1));clear p1 h1 o1 m1 D0;go_wp2_with fail;clear hf1 hk1;refine (vQd D1.out.eye).mono ?_;rintro e w2 ⟨y2,rfl,m2,p2,h2,o2⟩;dsimp only [strK,intK,idK,Yp];have P2:=Zh p2;have hf2:=D1.out.fz o2 1;have hk2:=D1.out.cl o2 1 rfl;have D2:=Zh (D1.out.step h2 o2 1 (.int .u64 (y2:Nat)));clear p2 h2 o2 m2 D1;go_wp2_with fail;clear hf2 hk2;refine (Jy D2.out.eye).mono ?_;rintro e w3 ⟨y3,rfl,m3,p3,h3,o3⟩;dsimp only [strK,intK,idK,Yp];have P3:=Zh p3;have hf3:=D2.out.fz o3 2;have hgz:=D2.out.hb;have D3:=Zh (D2.out.step h3 o3 2 (.int .i64 y3));have VV:Hid (Var w3 (w.heap.size+1) 155 [.int .i64 y1,.int .u64 (y2:Nat),.int .i64 0]):=Zh (D2.out.vv.oth o3 (by omega));have ZZ:=Zh (D2.out.zz.oth o3 (by omega));clear p3 h3 o3 m3 D2;obtain ⟨x0,x1,x2⟩:=v3 (VV.out);have zf:=ZZ.out.fz;have zl:=ZZ.out.lt;obtain ⟨u0,u1,u2⟩:=v3 (ZZ.out);go_wp2_with fail;refine bodyPost_ret (v:=.agg #[.int .i64 y1,.int .u64 (y2:Nat),.int .i64 y3]) (by simp [results,Tryz.results200,go_sem, *]) rfl ?_;obtain ⟨q1,q2⟩:=D3.out.fin [.int .i64 y1,.int .u64 (y2:Nat),.int .i64 y3];refine ⟨⟨y1,y2,y3⟩,rfl,trivial,?_,q1,q2⟩;unfold KpB.p kQE seqR;simp only [P1.out,P2.out,P3.out]
theorem jYb {W0 w:World} {b:Nat} {s:List UInt8 × Bool} (h:EyeS W0 b s w) :
  Calls Tryz.prog 94 #[.pointer (some ⟨b,0,none⟩)] w (TkR topK TB.p W0 b (topR s) w):=by
 have D0:=Zh (ED.start (T:=64) (z:=[.string ⟨#[]⟩,.int .i64 0,.slice none 0 0]) h);have hbw:=h.v.lt;clear h;go_enter Tryz.func94,Tryz.ntmps94;go_wp2_with fail;refine (jQ2 D0.out.eye).mono ?_;rintro e w1 ⟨y1,rfl,m1,p1,h1,o1⟩;dsimp only [strK,intK,idK,Yp];have P1:=Zh p1;have hf1:=D0.out.fz o1 0;have hk1:=D0.out.cl o1 0 rfl;have D1:=Zh (D0.out.step h1 o1 0 (.string y1));clear p1 h1 o1 m1 D0;go_wp2_with fail;clear hf1 hk1;refine (Jy D1.out.eye).mono ?_;rintro e w2 ⟨y2,rfl,m2,p2,h2,o2⟩;dsimp only [strK,intK,idK,Yp];have P2:=Zh p2;have hf2:=D1.out.fz o2 1;have hk2:=D1.out.cl o2 1 rfl;have D2:=Zh (D1.out.step h2 o2 1 (.int .i64 y2));clear p2 h2 o2 m2 D1;go_wp2_with fail;clear hf2 hk2;refine (xQj D2.out.eye).mono ?_;rintro e w3 ⟨v3,y3,rfl,hr3,m3,p3,h3,o3⟩;have P3:=Zh p3;have hf3:=D2.out.fz o3 2;have hgz:=D2.out.hb;have D3:=Zh (D2.out.step h3 o3 2 v3);have VV:Hid (Var w3 (w.heap.size+1) 64 [.string y1,.int .i64 y2,.slice none 0 0]):=Zh (D2.out.vv.oth o3 (by omega));have ZZ:=Zh (D2.out.zz.oth o3 (by omega));obtain ⟨a3,c3,hv3,hl3⟩:=LM.of (X:=strK) (S:=fun g=>w.heap.size+1 < g) (by decide) hr3 m3 (fun g hg=>Nat.lt_of_lt_of_le D2.out.vv.lt hg);subst hv3;have LC0:=Zh (hl3.put 2 (.slice a3 y3.length c3));clear p3 h3 o3 m3 D2 hr3 hl3;obtain ⟨x0,x1,x2⟩:=v3 (VV.out);have zf:=ZZ.out.fz;have zl:=ZZ.out.lt;obtain ⟨u0,u1,u2⟩:=v3 (ZZ.out);go_wp2_with fail;refine bodyPost_ret (v:=.agg #[.string y1,.int .i64 y2,.slice a3 y3.length c3]) (by simp [results,Tryz.results94,go_sem, *]) rfl ?_;obtain ⟨q1,q2⟩:=D3.out.fin [.string y1,.int .i64 y2,.slice a3 y3.length c3];refine ⟨⟨y1,y2,a3,y3,c3⟩,rfl,(LC0.out.fin [.string y1,.int .i64 y2,.slice a3 y3.length c3]),?_,q1,q2⟩;have e3:=P3.out;rw [List.map_id'] at e3;unfold TB.p topR seqR;simp only [P1.out,P2.out,e3]
theorem vJ7 {W0 w:World} {b:Nat} {s:List UInt8 × Bool} (h:EyeS W0 b s w)  :
  Calls Tryz.prog 101 #[.pointer (some ⟨b,0,none⟩),.func (.func 102) #[.pointer (some ⟨b,0,none⟩)] #[]] w (SoG Kk DeadB.p W0 b (Q0 kQI s) w):=by
 have hbw:=h.v.lt;have CI:=Zh (qQ7 h);have hn64:=jQO s;have CE:=Zh (fun (w1:World) (s1:List UInt8 × Bool) (h1:EyeS W0 b s1 w1)=>xJi h1);obtain ⟨F,hF⟩:∃ F,Q0 kQI s=F:=⟨_,rfl⟩;rw [hF];unfold Q0 at hF;generalize (idR s).1=n at CI hn64 hF;generalize (idR s).2=s1 at CI hF;have HF:=Zh hF;clear h hF;obtain ⟨l1,d1⟩:=s1;simp only at HF;go_enter Tryz.func101,Tryz.ntmps101;go_wp2_with fail;refine CI.out.mono ?_;rintro e w1 ⟨rfl,h1,h2⟩;have H1:=Zh h1;have O1:=Zh h2;have hlen:=h1.n;simp only at hlen;clear h1 h2 CI;obtain ⟨hz,x0,x1,z0,z1⟩:=ebox H1.out;simp only at x0 x1
 by_cases hgt:l1.length < n
 case' pos=>
  have b1:decide ((l1.length:Int) < (n:Int))=true:=by simpa using hgt
  have HF2:Hid (Yv kQI n (l1,true)=F):=Zh (by rw [<- HF.out,if_pos hgt]);go_wp2_with fail;refine Qg (fun v=>Hid (EyeS W0 b (l1,true) v)/\Hid (Oth b w v)) ⟨H1.out.mark,O1.out.set _⟩ ?_;rintro Y ⟨HS,HO⟩;have HI:Hid (SoI Kk DeadB.p kQI W0 w b F n [] (l1,true) (.slice none 0 0) Y):=Zh (SoI.start HF2.out HS.out HO.out (.inl rfl));clear b1 HF2 HS HO
 case' neg=>
  have b1:decide ((l1.length:Int) < (n:Int))=false:=by simpa using hgt
  have b2:¬ (l1.length:Int) < (n:Int):=by omega
  have HF2:Hid (Yv kQI n (l1,d1)=F):=Zh (by rw [<- HF.out,if_neg hgt]);go_wp2_with fail;have HI:Hid (SoI Kk DeadB.p kQI W0 w b F n [] (l1,d1) (.slice none 0 0) w1):=Zh (SoI.start HF2.out H1.out O1.out (.inr (by omega)));clear b1 b2 HF2
 all_goals
  clear H1 O1 hz x0 x1 z0 z1 HF hgt;go_loopw [5,6] (fun n v wr=>SoLG Kk DeadB.p kQI W0 w b F n v wr) (fun n _ _=>(intOf n).toNat)
  case atStart=>exact ⟨n,[],_,rfl,hn64,HI⟩
  case round=>
   clear HI;obtain ⟨m,ys,s,rfl,hm64,HI⟩:=hrel;obtain ⟨wo,rfl⟩:∃ wo,wo=wr:=⟨_,rfl⟩;obtain ⟨hz,x0,x1,z0,z1⟩:=ebox HI.out.eye;obtain ⟨l,d⟩:=s;simp only at x0 x1;cases m with
   | zero=>
    have HX:=Zh (HI.out.done (.inl rfl));have b4:((0:Nat):Int)=0:=rfl;clear HI;go_wp2_with fail;go_ret;exact HX.out
   | succ m=>
    have b5:decide ((0:Int) < ((m+1:Nat):Int))=true:=by simp
    cases d with
    | true=>
     have HX:=Zh (HI.out.done (.inr rfl));clear HI;go_wp2_with fail;go_ret;exact HX.out
    | false=>
     have hfw:ys.length+(m+1)<=1500000:=by simpa using HI.out.few
     have CT:=Zh (CE.out _ _ HI.out.eye);go_wp2_with fail;refine CT.out.mono ?_;rintro e w2 ⟨y,rfl,hy,hp,hs,ho⟩;have HY:=Zh hy;have HP:=Zh hp;have HS:=Zh hs;have HO:=Zh ho;have HR:=Zh (HI.out.row.oth ho hbw);have hz1:=HI.out.oth.size;have hz2:=ho.size;clear hy hp hs ho CT x0 x1 z0 z1;have HG:=Zh (Var.new w2 (Kk).T ((Kk).cells y));have HLN:=Zh (show (ys.map (Kk).cells).length=ys.length by rw [List.length_map]);have HC1:=Zh ((Kk).one y);dsimp only [Kk,DeadB.val] at HR HG HLN HC1 ⊢;go_wp2_with (at_builtin;refine Q8 deadT rfl _ _ rfl w.heap.size u6 (ys.map (Kk).cells) ys.length HLN.out rfl (HR.out.alloc _) ((Kk).cells y) rfl HC1.out w2.heap.size rfl (fun j _=>HG.out.cell j) ?a3 ?a4 ?_)
     case a3=>omega
     case a4=>first | omega | (simp;omega)
     intro g' cap w3 hr hb hst hat _;have HI3:=Zh (HI.out.next hbw HY.out HP.out HS.out HO.out hr hb hst hat);clear hr hb hst hat HI HY HP HS HO HR HG HLN HC1;go_wp2_with fail;go_roundw
     case rel=>exact ⟨m,ys++[y],_,by go_num,by omega,HI3⟩
     case measure=>simp [intOf]<;>omega
theorem vJe {W0 w:World} {b:Nat} {s:List UInt8 × Bool} (h:EyeS W0 b s w)  :
  Calls Tryz.prog 160 #[.pointer (some ⟨b,0,none⟩),.func (.func 115) #[.pointer (some ⟨b,0,none⟩)] #[]] w (SoG idK (fun x=>x) W0 b (Q0 idR s) w):=by
 have hbw:=h.v.lt;have CI:=Zh (qQ7 h);have hn64:=jQO s;have CE:=Zh (fun (w1:World) (s1:List UInt8 × Bool) (h1:EyeS W0 b s1 w1)=>vQd h1);obtain ⟨F,hF⟩:∃ F,Q0 idR s=F:=⟨_,rfl⟩;rw [hF];unfold Q0 at hF;generalize (idR s).1=n at CI hn64 hF;generalize (idR s).2=s1 at CI hF;have HF:=Zh hF;clear h hF;obtain ⟨l1,d1⟩:=s1;simp only at HF;go_enter Tryz.func160,Tryz.ntmps160;go_wp2_with fail;refine CI.out.mono ?_;rintro e w1 ⟨rfl,h1,h2⟩;have H1:=Zh h1;have O1:=Zh h2;have hlen:=h1.n;simp only at hlen;clear h1 h2 CI;obtain ⟨hz,x0,x1,z0,z1⟩:=ebox H1.out;simp only at x0 x1
 by_cases hgt:l1.length < n
 case' pos=>
  have b1:decide ((l1.length:Int) < (n:Int))=true:=by simpa using hgt
  have HF2:Hid (Yv idR n (l1,true)=F):=Zh (by rw [<- HF.out,if_pos hgt]);go_wp2_with fail;refine Qg (fun v=>Hid (EyeS W0 b (l1,true) v)/\Hid (Oth b w v)) ⟨H1.out.mark,O1.out.set _⟩ ?_;rintro Y ⟨HS,HO⟩;have HI:Hid (SoI idK (fun x=>x) idR W0 w b F n [] (l1,true) (.slice none 0 0) Y):=Zh (SoI.start HF2.out HS.out HO.out (.inl rfl));clear b1 HF2 HS HO
 case' neg=>
  have b1:decide ((l1.length:Int) < (n:Int))=false:=by simpa using hgt
  have b2:¬ (l1.length:Int) < (n:Int):=by omega
  have HF2:Hid (Yv idR n (l1,d1)=F):=Zh (by rw [<- HF.out,if_neg hgt]);go_wp2_with fail;have HI:Hid (SoI idK (fun x=>x) idR W0 w b F n [] (l1,d1) (.slice none 0 0) w1):=Zh (SoI.start HF2.out H1.out O1.out (.inr (by omega)));clear b1 b2 HF2
 all_goals
  clear H1 O1 hz x0 x1 z0 z1 HF hgt;go_loopw [5,6] (fun n v wr=>SoLG idK (fun x=>x) idR W0 w b F n v wr) (fun n _ _=>(intOf n).toNat)
  case atStart=>exact ⟨n,[],_,rfl,hn64,HI⟩
  case round=>
   clear HI;obtain ⟨m,ys,s,rfl,hm64,HI⟩:=hrel;obtain ⟨wo,rfl⟩:∃ wo,wo=wr:=⟨_,rfl⟩;obtain ⟨hz,x0,x1,z0,z1⟩:=ebox HI.out.eye;obtain ⟨l,d⟩:=s;simp only at x0 x1;cases m with
   | zero=>
    have HX:=Zh (HI.out.done (.inl rfl));have b4:((0:Nat):Int)=0:=rfl;clear HI;go_wp2_with fail;go_ret;exact HX.out
   | succ m=>
    have b5:decide ((0:Int) < ((m+1:Nat):Int))=true:=by simp
    cases d with
    | true=>
     have HX:=Zh (HI.out.done (.inr rfl));clear HI;go_wp2_with fail;go_ret;exact HX.out
    | false=>
     have hfw:ys.length+(m+1)<=1500000:=by simpa using HI.out.few
     have CT:=Zh (CE.out _ _ HI.out.eye);go_wp2_with fail;refine CT.out.mono ?_;rintro e w2 ⟨y,rfl,hy,hp,hs,ho⟩;have HY:=Zh hy;have HP:=Zh hp;have HS:=Zh hs;have HO:=Zh ho;have HR:=Zh (HI.out.row.oth ho hbw);have hz1:=HI.out.oth.size;have hz2:=ho.size;clear hy hp hs ho CT x0 x1 z0 z1;have HG:=Zh (Var.new w2 (idK).T ((idK).cells y));have HLN:=Zh (show (ys.map (idK).cells).length=ys.length by rw [List.length_map]);have HC1:=Zh ((idK).one y);dsimp only [idK] at HR HG HLN HC1 ⊢;go_wp2_with (at_builtin;refine Q8 idT rfl _ _ rfl w.heap.size u6 (ys.map (idK).cells) ys.length HLN.out rfl (HR.out.alloc _) ((idK).cells y) rfl HC1.out w2.heap.size rfl (fun j _=>HG.out.cell j) ?a3 ?a4 ?_)
     case a3=>omega
     case a4=>first | omega | (simp;omega)
     intro g' cap w3 hr hb hst hat _;have HI3:=Zh (HI.out.next hbw HY.out HP.out HS.out HO.out hr hb hst hat);clear hr hb hst hat HI HY HP HS HO HR HG HLN HC1;go_wp2_with fail;go_roundw
     case rel=>exact ⟨m,ys++[y],_,by go_num,by omega,HI3⟩
     case measure=>simp [intOf]<;>omega
theorem jYz {W0 w:World} {b:Nat} {s:List UInt8 × Bool} (h:EyeS W0 b s w) :
  Calls Tryz.prog 100 #[.pointer (some ⟨b,0,none⟩)] w (TkR outK UB.p W0 b (outR s) w):=by
 have D0:=Zh (ED.start (T:=90) (z:=[.int .u64 0,.string ⟨#[]⟩,.slice none 0 0,.int .i64 0,.int .i64 0]) h);have hbw:=h.v.lt;clear h;go_enter Tryz.func100,Tryz.ntmps100;go_wp2_with fail;refine (vQd D0.out.eye).mono ?_;rintro e w1 ⟨y1,rfl,m1,p1,h1,o1⟩;dsimp only [strK,intK,idK,Yp];have P1:=Zh p1;have hf1:=D0.out.fz o1 0;have hk1:=D0.out.cl o1 0 rfl;have D1:=Zh (D0.out.step h1 o1 0 (.int .u64 (y1:Nat)));clear p1 h1 o1 m1 D0;go_wp2_with fail;clear hf1 hk1;refine (jQ2 D1.out.eye).mono ?_;rintro e w2 ⟨y2,rfl,m2,p2,h2,o2⟩;dsimp only [strK,intK,idK,Yp];have P2:=Zh p2;have hf2:=D1.out.fz o2 1;have hk2:=D1.out.cl o2 1 rfl;have D2:=Zh (D1.out.step h2 o2 1 (.string y2));clear p2 h2 o2 m2 D1;go_wp2_with fail;clear hf2 hk2;refine (vJe D2.out.eye).mono ?_;rintro e w3 ⟨v3,y3,rfl,hr3,m3,p3,h3,o3⟩;have P3:=Zh p3;have hf3:=D2.out.fz o3 2;have hk3:=D2.out.cl o3 2 rfl;have D3:=Zh (D2.out.step h3 o3 2 v3);obtain ⟨a3,c3,hv3,hl3⟩:=LM.of (X:=idK) (S:=fun g=>w.heap.size+1 < g) (by decide) hr3 m3 (fun g hg=>Nat.lt_of_lt_of_le D2.out.vv.lt hg);subst hv3;have LC0:=Zh (hl3.put 2 (.slice a3 y3.length c3));clear p3 h3 o3 m3 D2 hr3 hl3;go_wp2_with fail;clear hf3 hk3;refine (Jy D3.out.eye).mono ?_;rintro e w4 ⟨y4,rfl,m4,p4,h4,o4⟩;dsimp only [strK,intK,idK,Yp];have P4:=Zh p4;have hf4:=D3.out.fz o4 3;have hk4:=D3.out.cl o4 3 rfl;have D4:=Zh (D3.out.step h4 o4 3 (.int .i64 y4));have LC1:=Zh (LC0.out.step hbw o4 3 (.int .i64 y4));clear LC0;clear p4 h4 o4 m4 D3;go_wp2_with fail;clear hf4 hk4;refine (Jy D4.out.eye).mono ?_;rintro e w5 ⟨y5,rfl,m5,p5,h5,o5⟩;dsimp only [strK,intK,idK,Yp];have P5:=Zh p5;have hf5:=D4.out.fz o5 4;have hgz:=D4.out.hb;have D5:=Zh (D4.out.step h5 o5 4 (.int .i64 y5));have VV:Hid (Var w5 (w.heap.size+1) 90 [.int .u64 (y1:Nat),.string y2,.slice a3 y3.length c3,.int .i64 y4,.int .i64 0]):=Zh (D4.out.vv.oth o5 (by omega));have ZZ:=Zh (D4.out.zz.oth o5 (by omega));have LC2:=Zh (LC1.out.step hbw o5 4 (.int .i64 y5));clear LC1;clear p5 h5 o5 m5 D4;obtain ⟨x0,x1,x2,x3,x4⟩:=v5 (VV.out);have zf:=ZZ.out.fz;have zl:=ZZ.out.lt;obtain ⟨u0,u1,u2,u3,u4⟩:=v5 (ZZ.out);go_wp2_with fail;refine bodyPost_ret (v:=.agg #[.int .u64 (y1:Nat),.string y2,.slice a3 y3.length c3,.int .i64 y4,.int .i64 y5]) (by simp [results,Tryz.results100,go_sem, *]) rfl ?_;obtain ⟨q1,q2⟩:=D5.out.fin [.int .u64 (y1:Nat),.string y2,.slice a3 y3.length c3,.int .i64 y4,.int .i64 y5];refine ⟨⟨y1,y2,a3,c3,y3,y4,y5⟩,rfl,(LC2.out.fin [.int .u64 (y1:Nat),.string y2,.slice a3 y3.length c3,.int .i64 y4,.int .i64 y5]),?_,q1,q2⟩;have e3:=P3.out;rw [List.map_id'] at e3;unfold UB.p outR seqR;simp only [P1.out,P2.out,e3,P4.out,P5.out]
end Go.Proofs.YtcbicdencgjfiaaGreatDoor
namespace Go.Proofs.YtcbicdencgjfiaaGreatDoor
open Go Go.RowKit Tryst
def keyK:EK V where
 T:=121
 k:=3
 cells:=fun v=>[.bool v.num,.int .i64 v.n,.string ⟨v.s.toArray⟩]
 val:=fun v=>.agg #[.bool v.num,.int .i64 v.n,.string ⟨v.s.toArray⟩]
 E:=fun _ _ _=>True
 len:=fun y=>rfl
 one:=fun y u hu=>by
  simp at hu
  rcases hu with rfl | rfl | rfl<;>rfl
 keep:=fun _ _ _=>trivial
theorem jYh {W0 w:World} {b:Nat} {s:List UInt8 × Bool} (h:EyeS W0 b s w) :
  Calls Tryz.prog 198 #[.pointer (some ⟨b,0,none⟩)] w (TkR keyK (fun x=>x) W0 b (keyR s) w):=by
 obtain ⟨l,d⟩:=s;have hbw:=h.v.lt;have hlen:=h.n;simp only at hlen;have H0:=Zh (h.quiet (Qj (.cells #[.bool false,.int .i64 0,.string ⟨#[]⟩] 121) (.refl w.heap.size w)));have HV:=Zh (Var.new w 121 [.bool false,.int .i64 0,.string ⟨#[]⟩]);have HB:=Zh (Qj (.cells #[.bool false,.int .i64 0,.string ⟨#[]⟩] 121) (.refl w.heap.size w));have hu:(Jp l).2.2=0->(Jp l).2.1<=l.length:=fun h=>(xQO (l:=l) (v:=(Jp l).1) (k:=(Jp l).2.1) (by rw [<- h])).2.2.2.1
 have CU:=Zh (fun W=>zJt ⟨l.toArray⟩ (by rw [mk_size];omega) W);simp only [Jb] at CU;clear h;have HI:Hid (keyR (l,d)=if d=true then (V.zero,(l,d)) else if (Jp l).2.2=0 then ((Jp l).1,(l.drop (Jp l).2.1,false)) else (V.zero,(l,true))):=Zh rfl;generalize keyR (l,d)=R at HI ⊢;generalize hn:(Jp l).1=n at CU HI;generalize hk:(Jp l).2.1=k at CU HI hu;generalize he:(Jp l).2.2=err at CU HI hu;clear hn hk he
 have key:Y8 (k:Int) (decide (err=0)) (l,d)=R.2/\R.1=(if R.2.2=true then V.zero else n):=by
  rw [HI.out];unfold Y8;cases d with
  | true=>simp
  | false=>
   by_cases h0:err=0
   · simp [h0]
   · simp [h0]
 obtain ⟨k1,k2⟩:=key;have HK1:=Zh k1;have HK2:=Zh k2;have HU:Hid (d=false->decide (err=0)=true->(0:Int)<=k/\(k:Int)<=l.length):=Zh (fun _ h=>⟨by omega,by have:=hu (by simpa using h);omega⟩);clear k1 k2 hu HI
 have b1:((err:Int)==0)=decide (err=0):=by
  rw [Bool.eq_iff_iff];simp
 go_enter Tryz.func198,Tryz.ntmps198;go_upto_region 1 with fail
 revert H0 HV HB;simp only [List.toArray];generalize w.alloc (.cells _ 121)=Y;intro H0 HV HB;have hgb:w.heap.size≠b:=by omega
 obtain ⟨e0,e1⟩:=v2 (H0.out.v);go_wp2_with fail;refine (CU.out _).mono ?_;rintro e w1 ⟨rfl,hb1⟩;have B1:=Zh (Qj (.cells #[.bool n.num,.int .i64 n.n,.string ⟨n.s.toArray⟩] 121) hb1);have H1:=Zh (H0.out.quiet B1.out);have V1:=Zh (HV.out.grow B1.out);have N1:=Zh (Var.new w1 121 [.bool n.num,.int .i64 n.n,.string ⟨n.s.toArray⟩]);have O1:=Zh ((Oth.below (b:=b) HB.out).trans (Oth.below B1.out));have hz1:=hb1.size;have hgz:=HV.out.lt;clear hb1 e0 e1 H0 HV HB B1 CU;go_upto_region 2 with fail
 revert H1 V1 N1 O1;simp only [List.toArray];generalize w1.alloc (.cells _ 121)=Z;intro H1 V1 N1 O1;generalize w1.heap.size=g at N1 hz1 ⊢;have hgw:w.heap.size≠g:=by omega
 have hgb2:g≠b:=by omega
 obtain ⟨e0,e1,e2⟩:=v3 (N1.out);obtain ⟨x0,x1,x2⟩:=v3 (V1.out);have zf:=V1.out.fz;have zl:=V1.out.lt;go_wp2_with fail;refine (qQe (k:Int) (decide (err=0)) H1.out HU.out).mono ?_;rintro e w2 ⟨rfl,h1,h2⟩;rw [HK1.out] at h1 ⊢;have H2:=Zh h1;have O2:=Zh (O1.out.trans h2);have V2:=Zh (V1.out.oth h2 hgb);have N2:=Zh (N1.out.oth h2 hgb2);clear h1 h2 H1 O1 V1 N1 e0 e1 e2 x0 x1 x2 zf zl;obtain ⟨e0,e1,e2⟩:=v3 (N2.out);obtain ⟨x0,x1,x2⟩:=v3 (V2.out);have zf:=V2.out.fz;have zl:=V2.out.lt;have hW0:W0.heap.size<=w.heap.size:=Nat.le_of_lt (Nat.lt_of_le_of_lt H2.out.ge hbw);obtain ⟨r1,r2,r3⟩:=R;simp only at HK2 H2 ⊢;cases r3 with
 | true=>
  go_wp2_with fail;refine bodyPost_ret (v:=.agg #[.bool false,.int .i64 0,.string ⟨#[]⟩]) (by simp [results,Tryz.results198,go_sem, *]) rfl ?_;exact ⟨V.zero,rfl,trivial,by rw [HK2.out,if_pos trivial],H2.out.sets hgb hW0 0 [.bool false,.int .i64 0,.string ⟨#[]⟩],O2.out.setsB (Nat.le_refl _) 0 [.bool false,.int .i64 0,.string ⟨#[]⟩]⟩
 | false=>
  go_wp2_with fail;refine bodyPost_ret (v:=.agg #[.bool n.num,.int .i64 n.n,.string ⟨n.s.toArray⟩]) (by simp [results,Tryz.results198,go_sem, *]) rfl ?_;exact ⟨n,rfl,trivial,by rw [HK2.out,if_neg (by simp)],H2.out.sets hgb hW0 0 [.bool n.num,.int .i64 n.n,.string ⟨n.s.toArray⟩],O2.out.setsB (Nat.le_refl _) 0 [.bool n.num,.int .i64 n.n,.string ⟨n.s.toArray⟩]⟩
