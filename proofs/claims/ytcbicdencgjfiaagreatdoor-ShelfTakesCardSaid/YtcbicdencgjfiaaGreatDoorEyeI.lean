import Derived.Test.YtcbicdencgjfiaaGreatDoorEyeV
set_option linter.all false
set_option maxHeartbeats 4000000
set_option maxRecDepth 20000
namespace Go.Proofs.YtcbicdencgjfiaaGreatDoor
open Go Go.RowKit Tryst
theorem zJd {W0 w:World} {b:Nat} {s:List UInt8 × Bool} (h:EyeS W0 b s w)  :
  Calls Tryz.prog 199 #[.pointer (some ⟨b,0,none⟩),.func (.func 200) #[.pointer (some ⟨b,0,none⟩)] #[]] w (SoG jQ1 KpB.p W0 b (Q0 kQE s) w):=by
 have hbw:=h.v.lt;have CI:=Zh (qQ7 h);have hn64:=jQO s;have CE:=Zh (fun (w1:World) (s1:List UInt8 × Bool) (h1:EyeS W0 b s1 w1)=>xJW h1);obtain ⟨F,hF⟩:∃ F,Q0 kQE s=F:=⟨_,rfl⟩;rw [hF];unfold Q0 at hF;generalize (idR s).1=n at CI hn64 hF;generalize (idR s).2=s1 at CI hF;have HF:=Zh hF;clear h hF;obtain ⟨l1,d1⟩:=s1;simp only at HF;go_enter Tryz.func199,Tryz.ntmps199;go_wp2_with fail;refine CI.out.mono ?_;rintro e w1 ⟨rfl,h1,h2⟩;have H1:=Zh h1;have O1:=Zh h2;have hlen:=h1.n;simp only at hlen;clear h1 h2 CI;obtain ⟨hz,x0,x1,z0,z1⟩:=ebox H1.out;simp only at x0 x1
 by_cases hgt:l1.length < n
 case' pos=>
  have b1:decide ((l1.length:Int) < (n:Int))=true:=by simpa using hgt
  have HF2:Hid (Yv kQE n (l1,true)=F):=Zh (by rw [<- HF.out,if_pos hgt]);go_wp2_with fail;refine Qg (fun v=>Hid (EyeS W0 b (l1,true) v)/\Hid (Oth b w v)) ⟨H1.out.mark,O1.out.set _⟩ ?_;rintro Y ⟨HS,HO⟩;have HI:Hid (SoI jQ1 KpB.p kQE W0 w b F n [] (l1,true) (.slice none 0 0) Y):=Zh (SoI.start HF2.out HS.out HO.out (.inl rfl));clear b1 HF2 HS HO
 case' neg=>
  have b1:decide ((l1.length:Int) < (n:Int))=false:=by simpa using hgt
  have b2:¬ (l1.length:Int) < (n:Int):=by omega
  have HF2:Hid (Yv kQE n (l1,d1)=F):=Zh (by rw [<- HF.out,if_neg hgt]);go_wp2_with fail;have HI:Hid (SoI jQ1 KpB.p kQE W0 w b F n [] (l1,d1) (.slice none 0 0) w1):=Zh (SoI.start HF2.out H1.out O1.out (.inr (by omega)));clear b1 b2 HF2
 all_goals
  clear H1 O1 hz x0 x1 z0 z1 HF hgt;go_loopw [5,6] (fun n v wr=>SoLG jQ1 KpB.p kQE W0 w b F n v wr) (fun n _ _=>(intOf n).toNat)
  case atStart=>exact ⟨n,[],_,rfl,hn64,HI⟩
  case round=>
   clear HI;obtain ⟨m,ys,s,rfl,hm64,HI⟩:=hrel;obtain ⟨wo,rfl⟩:∃ wo,wo=wr:=⟨_,rfl⟩;obtain ⟨hz,x0,x1,z0,z1⟩:=ebox HI.out.eye;obtain ⟨l,d⟩:=s;simp only at x0 x1;cases m with
   | zero=>
    have HX:=Zh (HI.out.done (.inl rfl));have b4:((0:Nat):Int)=0:=rfl;clear HI;go_wp2_with fail;go_ret;exact HX.out
   | succ m=>
    have b5:decide ((0:Int) < ((m+1:Nat):Int))=true:=by simp
    cases d with
    | true=>
     have HX:=Zh (HI.out.done (.inr rfl));clear HI;go_wp2_with fail;go_ret;exact HX.out
    | false=>
     have hfw:ys.length+(m+1)<=1500000:=by simpa using HI.out.few
     have CT:=Zh (CE.out _ _ HI.out.eye);go_wp2_with fail;refine CT.out.mono ?_;rintro e w2 ⟨y,rfl,hy,hp,hs,ho⟩;have HY:=Zh hy;have HP:=Zh hp;have HS:=Zh hs;have HO:=Zh ho;have HR:=Zh (HI.out.row.oth ho hbw);have hz1:=HI.out.oth.size;have hz2:=ho.size;clear hy hp hs ho CT x0 x1 z0 z1;have HG:=Zh (Var.new w2 (jQ1).T ((jQ1).cells y));have HLN:=Zh (show (ys.map (jQ1).cells).length=ys.length by rw [List.length_map]);have HC1:=Zh ((jQ1).one y);dsimp only [jQ1,KpB.val] at HR HG HLN HC1 ⊢;go_wp2_with (at_builtin;refine Q8 vJI rfl _ _ rfl w.heap.size u6 (ys.map (jQ1).cells) ys.length HLN.out rfl (HR.out.alloc _) ((jQ1).cells y) rfl HC1.out w2.heap.size rfl (fun j _=>HG.out.cell j) ?a3 ?a4 ?_)
     case a3=>omega
     case a4=>first | omega | (simp;omega)
     intro g' cap w3 hr hb hst hat _;have HI3:=Zh (HI.out.next hbw HY.out HP.out HS.out HO.out hr hb hst hat);clear hr hb hst hat HI HY HP HS HO HR HG HLN HC1;go_wp2_with fail;go_roundw
     case rel=>exact ⟨m,ys++[y],_,by go_num,by omega,HI3⟩
     case measure=>simp [intOf]<;>omega
theorem vJ6 {W0 w:World} {b:Nat} {s:List UInt8 × Bool} (h:EyeS W0 b s w)  :
  Calls Tryz.prog 156 #[.pointer (some ⟨b,0,none⟩),.func (.func 157) #[.pointer (some ⟨b,0,none⟩)] #[]] w (SoG offK OB.p W0 b (Q0 offR s) w):=by
 have hbw:=h.v.lt;have CI:=Zh (qQ7 h);have hn64:=jQO s;have CE:=Zh (fun (w1:World) (s1:List UInt8 × Bool) (h1:EyeS W0 b s1 w1)=>jYn h1);obtain ⟨F,hF⟩:∃ F,Q0 offR s=F:=⟨_,rfl⟩;rw [hF];unfold Q0 at hF;generalize (idR s).1=n at CI hn64 hF;generalize (idR s).2=s1 at CI hF;have HF:=Zh hF;clear h hF;obtain ⟨l1,d1⟩:=s1;simp only at HF;go_enter Tryz.func156,Tryz.ntmps156;go_wp2_with fail;refine CI.out.mono ?_;rintro e w1 ⟨rfl,h1,h2⟩;have H1:=Zh h1;have O1:=Zh h2;have hlen:=h1.n;simp only at hlen;clear h1 h2 CI;obtain ⟨hz,x0,x1,z0,z1⟩:=ebox H1.out;simp only at x0 x1
 by_cases hgt:l1.length < n
 case' pos=>
  have b1:decide ((l1.length:Int) < (n:Int))=true:=by simpa using hgt
  have HF2:Hid (Yv offR n (l1,true)=F):=Zh (by rw [<- HF.out,if_pos hgt]);go_wp2_with fail;refine Qg (fun v=>Hid (EyeS W0 b (l1,true) v)/\Hid (Oth b w v)) ⟨H1.out.mark,O1.out.set _⟩ ?_;rintro Y ⟨HS,HO⟩;have HI:Hid (SoI offK OB.p offR W0 w b F n [] (l1,true) (.slice none 0 0) Y):=Zh (SoI.start HF2.out HS.out HO.out (.inl rfl));clear b1 HF2 HS HO
 case' neg=>
  have b1:decide ((l1.length:Int) < (n:Int))=false:=by simpa using hgt
  have b2:¬ (l1.length:Int) < (n:Int):=by omega
  have HF2:Hid (Yv offR n (l1,d1)=F):=Zh (by rw [<- HF.out,if_neg hgt]);go_wp2_with fail;have HI:Hid (SoI offK OB.p offR W0 w b F n [] (l1,d1) (.slice none 0 0) w1):=Zh (SoI.start HF2.out H1.out O1.out (.inr (by omega)));clear b1 b2 HF2
 all_goals
  clear H1 O1 hz x0 x1 z0 z1 HF hgt;go_loopw [5,6] (fun n v wr=>SoLG offK OB.p offR W0 w b F n v wr) (fun n _ _=>(intOf n).toNat)
  case atStart=>exact ⟨n,[],_,rfl,hn64,HI⟩
  case round=>
   clear HI;obtain ⟨m,ys,s,rfl,hm64,HI⟩:=hrel;obtain ⟨wo,rfl⟩:∃ wo,wo=wr:=⟨_,rfl⟩;obtain ⟨hz,x0,x1,z0,z1⟩:=ebox HI.out.eye;obtain ⟨l,d⟩:=s;simp only at x0 x1;cases m with
   | zero=>
    have HX:=Zh (HI.out.done (.inl rfl));have b4:((0:Nat):Int)=0:=rfl;clear HI;go_wp2_with fail;go_ret;exact HX.out
   | succ m=>
    have b5:decide ((0:Int) < ((m+1:Nat):Int))=true:=by simp
    cases d with
    | true=>
     have HX:=Zh (HI.out.done (.inr rfl));clear HI;go_wp2_with fail;go_ret;exact HX.out
    | false=>
     have hfw:ys.length+(m+1)<=1500000:=by simpa using HI.out.few
     have CT:=Zh (CE.out _ _ HI.out.eye);go_wp2_with fail;refine CT.out.mono ?_;rintro e w2 ⟨y,rfl,hy,hp,hs,ho⟩;have HY:=Zh hy;have HP:=Zh hp;have HS:=Zh hs;have HO:=Zh ho;have HR:=Zh (HI.out.row.oth ho hbw);have hz1:=HI.out.oth.size;have hz2:=ho.size;clear hy hp hs ho CT x0 x1 z0 z1;have HG:=Zh (Var.new w2 (offK).T ((offK).cells y));have HLN:=Zh (show (ys.map (offK).cells).length=ys.length by rw [List.length_map]);have HC1:=Zh ((offK).one y);dsimp only [offK,OB.val] at HR HG HLN HC1 ⊢;go_wp2_with (at_builtin;refine Q8 offT rfl _ _ rfl w.heap.size u6 (ys.map (offK).cells) ys.length HLN.out rfl (HR.out.alloc _) ((offK).cells y) rfl HC1.out w2.heap.size rfl (fun j _=>HG.out.cell j) ?a3 ?a4 ?_)
     case a3=>omega
     case a4=>first | omega | (simp;omega)
     intro g' cap w3 hr hb hst hat _;have HI3:=Zh (HI.out.next hbw HY.out HP.out HS.out HO.out hr hb hst hat);clear hr hb hst hat HI HY HP HS HO HR HG HLN HC1;go_wp2_with fail;go_roundw
     case rel=>exact ⟨m,ys++[y],_,by go_num,by omega,HI3⟩
     case measure=>simp [intOf]<;>omega
theorem zJO {W0 w:World} {b:Nat} {s:List UInt8 × Bool} (h:EyeS W0 b s w)  :
  Calls Tryz.prog 93 #[.pointer (some ⟨b,0,none⟩),.func (.func 94) #[.pointer (some ⟨b,0,none⟩)] #[]] w (SoG topK TB.p W0 b (Q0 topR s) w):=by
 have hbw:=h.v.lt;have CI:=Zh (qQ7 h);have hn64:=jQO s;have CE:=Zh (fun (w1:World) (s1:List UInt8 × Bool) (h1:EyeS W0 b s1 w1)=>jYb h1);obtain ⟨F,hF⟩:∃ F,Q0 topR s=F:=⟨_,rfl⟩;rw [hF];unfold Q0 at hF;generalize (idR s).1=n at CI hn64 hF;generalize (idR s).2=s1 at CI hF;have HF:=Zh hF;clear h hF;obtain ⟨l1,d1⟩:=s1;simp only at HF;go_enter Tryz.func93,Tryz.ntmps93;go_wp2_with fail;refine CI.out.mono ?_;rintro e w1 ⟨rfl,h1,h2⟩;have H1:=Zh h1;have O1:=Zh h2;have hlen:=h1.n;simp only at hlen;clear h1 h2 CI;obtain ⟨hz,x0,x1,z0,z1⟩:=ebox H1.out;simp only at x0 x1
 by_cases hgt:l1.length < n
 case' pos=>
  have b1:decide ((l1.length:Int) < (n:Int))=true:=by simpa using hgt
  have HF2:Hid (Yv topR n (l1,true)=F):=Zh (by rw [<- HF.out,if_pos hgt]);go_wp2_with fail;refine Qg (fun v=>Hid (EyeS W0 b (l1,true) v)/\Hid (Oth b w v)) ⟨H1.out.mark,O1.out.set _⟩ ?_;rintro Y ⟨HS,HO⟩;have HI:Hid (SoI topK TB.p topR W0 w b F n [] (l1,true) (.slice none 0 0) Y):=Zh (SoI.start HF2.out HS.out HO.out (.inl rfl));clear b1 HF2 HS HO
 case' neg=>
  have b1:decide ((l1.length:Int) < (n:Int))=false:=by simpa using hgt
  have b2:¬ (l1.length:Int) < (n:Int):=by omega
  have HF2:Hid (Yv topR n (l1,d1)=F):=Zh (by rw [<- HF.out,if_neg hgt]);go_wp2_with fail;have HI:Hid (SoI topK TB.p topR W0 w b F n [] (l1,d1) (.slice none 0 0) w1):=Zh (SoI.start HF2.out H1.out O1.out (.inr (by omega)));clear b1 b2 HF2
 all_goals
  clear H1 O1 hz x0 x1 z0 z1 HF hgt;go_loopw [5,6] (fun n v wr=>SoLG topK TB.p topR W0 w b F n v wr) (fun n _ _=>(intOf n).toNat)
  case atStart=>exact ⟨n,[],_,rfl,hn64,HI⟩
  case round=>
   clear HI;obtain ⟨m,ys,s,rfl,hm64,HI⟩:=hrel;obtain ⟨wo,rfl⟩:∃ wo,wo=wr:=⟨_,rfl⟩;obtain ⟨hz,x0,x1,z0,z1⟩:=ebox HI.out.eye;obtain ⟨l,d⟩:=s;simp only at x0 x1;cases m with
   | zero=>
    have HX:=Zh (HI.out.done (.inl rfl));have b4:((0:Nat):Int)=0:=rfl;clear HI;go_wp2_with fail;go_ret;exact HX.out
   | succ m=>
    have b5:decide ((0:Int) < ((m+1:Nat):Int))=true:=by simp
    cases d with
    | true=>
     have HX:=Zh (HI.out.done (.inr rfl));clear HI;go_wp2_with fail;go_ret;exact HX.out
    | false=>
     have hfw:ys.length+(m+1)<=1500000:=by simpa using HI.out.few
     have CT:=Zh (CE.out _ _ HI.out.eye);go_wp2_with fail;refine CT.out.mono ?_;rintro e w2 ⟨y,rfl,hy,hp,hs,ho⟩;have HY:=Zh hy;have HP:=Zh hp;have HS:=Zh hs;have HO:=Zh ho;have HR:=Zh (HI.out.row.oth ho hbw);have hz1:=HI.out.oth.size;have hz2:=ho.size;clear hy hp hs ho CT x0 x1 z0 z1;have HG:=Zh (Var.new w2 (topK).T ((topK).cells y));have HLN:=Zh (show (ys.map (topK).cells).length=ys.length by rw [List.length_map]);have HC1:=Zh ((topK).one y);dsimp only [topK,tV] at HR HG HLN HC1 ⊢;go_wp2_with (at_builtin;refine Q8 topT rfl _ _ rfl w.heap.size u6 (ys.map (topK).cells) ys.length HLN.out rfl (HR.out.alloc _) ((topK).cells y) rfl HC1.out w2.heap.size rfl (fun j _=>HG.out.cell j) ?a3 ?a4 ?_)
     case a3=>omega
     case a4=>first | omega | (simp;omega)
     intro g' cap w3 hr hb hst hat _;have HI3:=Zh (HI.out.next hbw HY.out HP.out HS.out HO.out hr hb hst hat);clear hr hb hst hat HI HY HP HS HO HR HG HLN HC1;go_wp2_with fail;go_roundw
     case rel=>exact ⟨m,ys++[y],_,by go_num,by omega,HI3⟩
     case measure=>simp [intOf]<;>omega
theorem vJC {W0 w:World} {b:Nat} {s:List UInt8 × Bool} (h:EyeS W0 b s w)  :
  Calls Tryz.prog 95 #[.pointer (some ⟨b,0,none⟩),.func (.func 96) #[.pointer (some ⟨b,0,none⟩)] #[]] w (SoG Z9 LB.p W0 b (Q0 kQ0 s) w):=by
 have hbw:=h.v.lt;have CI:=Zh (qQ7 h);have hn64:=jQO s;have CE:=Zh (fun (w1:World) (s1:List UInt8 × Bool) (h1:EyeS W0 b s1 w1)=>xJJ h1);obtain ⟨F,hF⟩:∃ F,Q0 kQ0 s=F:=⟨_,rfl⟩;rw [hF];unfold Q0 at hF;generalize (idR s).1=n at CI hn64 hF;generalize (idR s).2=s1 at CI hF;have HF:=Zh hF;clear h hF;obtain ⟨l1,d1⟩:=s1;simp only at HF;go_enter Tryz.func95,Tryz.ntmps95;go_wp2_with fail;refine CI.out.mono ?_;rintro e w1 ⟨rfl,h1,h2⟩;have H1:=Zh h1;have O1:=Zh h2;have hlen:=h1.n;simp only at hlen;clear h1 h2 CI;obtain ⟨hz,x0,x1,z0,z1⟩:=ebox H1.out;simp only at x0 x1
 by_cases hgt:l1.length < n
 case' pos=>
  have b1:decide ((l1.length:Int) < (n:Int))=true:=by simpa using hgt
  have HF2:Hid (Yv kQ0 n (l1,true)=F):=Zh (by rw [<- HF.out,if_pos hgt]);go_wp2_with fail;refine Qg (fun v=>Hid (EyeS W0 b (l1,true) v)/\Hid (Oth b w v)) ⟨H1.out.mark,O1.out.set _⟩ ?_;rintro Y ⟨HS,HO⟩;have HI:Hid (SoI Z9 LB.p kQ0 W0 w b F n [] (l1,true) (.slice none 0 0) Y):=Zh (SoI.start HF2.out HS.out HO.out (.inl rfl));clear b1 HF2 HS HO
 case' neg=>
  have b1:decide ((l1.length:Int) < (n:Int))=false:=by simpa using hgt
  have b2:¬ (l1.length:Int) < (n:Int):=by omega
  have HF2:Hid (Yv kQ0 n (l1,d1)=F):=Zh (by rw [<- HF.out,if_neg hgt]);go_wp2_with fail;have HI:Hid (SoI Z9 LB.p kQ0 W0 w b F n [] (l1,d1) (.slice none 0 0) w1):=Zh (SoI.start HF2.out H1.out O1.out (.inr (by omega)));clear b1 b2 HF2
 all_goals
  clear H1 O1 hz x0 x1 z0 z1 HF hgt;go_loopw [5,6] (fun n v wr=>SoLG Z9 LB.p kQ0 W0 w b F n v wr) (fun n _ _=>(intOf n).toNat)
  case atStart=>exact ⟨n,[],_,rfl,hn64,HI⟩
  case round=>
   clear HI;obtain ⟨m,ys,s,rfl,hm64,HI⟩:=hrel;obtain ⟨wo,rfl⟩:∃ wo,wo=wr:=⟨_,rfl⟩;obtain ⟨hz,x0,x1,z0,z1⟩:=ebox HI.out.eye;obtain ⟨l,d⟩:=s;simp only at x0 x1;cases m with
   | zero=>
    have HX:=Zh (HI.out.done (.inl rfl));have b4:((0:Nat):Int)=0:=rfl;clear HI;go_wp2_with fail;go_ret;exact HX.out
   | succ m=>
    have b5:decide ((0:Int) < ((m+1:Nat):Int))=true:=by simp
    cases d with
    | true=>
     have HX:=Zh (HI.out.done (.inr rfl));clear HI;go_wp2_with fail;go_ret;exact HX.out
    | false=>
     have hfw:ys.length+(m+1)<=1500000:=by simpa using HI.out.few
     have CT:=Zh (CE.out _ _ HI.out.eye);go_wp2_with fail;refine CT.out.mono ?_;rintro e w2 ⟨y,rfl,hy,hp,hs,ho⟩;have HY:=Zh hy;have HP:=Zh hp;have HS:=Zh hs;have HO:=Zh ho;have HR:=Zh (HI.out.row.oth ho hbw);have hz1:=HI.out.oth.size;have hz2:=ho.size;clear hy hp hs ho CT x0 x1 z0 z1;have HG:=Zh (Var.new w2 (Z9).T ((Z9).cells y));have HLN:=Zh (show (ys.map (Z9).cells).length=ys.length by rw [List.length_map]);have HC1:=Zh ((Z9).one y);dsimp only [Z9,LB.val] at HR HG HLN HC1 ⊢;go_wp2_with (at_builtin;refine Q8 lastT rfl _ _ rfl w.heap.size u6 (ys.map (Z9).cells) ys.length HLN.out rfl (HR.out.alloc _) ((Z9).cells y) rfl HC1.out w2.heap.size rfl (fun j _=>HG.out.cell j) ?a3 ?a4 ?_)
     case a3=>omega
     case a4=>first | omega | (simp;omega)
     intro g' cap w3 hr hb hst hat _;have HI3:=Zh (HI.out.next hbw HY.out HP.out HS.out HO.out hr hb hst hat);clear hr hb hst hat HI HY HP HS HO HR HG HLN HC1;go_wp2_with fail;go_roundw
     case rel=>exact ⟨m,ys++[y],_,by go_num,by omega,HI3⟩
     case measure=>simp [intOf]<;>omega
theorem xQy {W0 w:World} {b:Nat} {s:List UInt8 × Bool} (h:EyeS W0 b s w)  :
  Calls Tryz.prog 99 #[.pointer (some ⟨b,0,none⟩),.func (.func 100) #[.pointer (some ⟨b,0,none⟩)] #[]] w (SoG outK UB.p W0 b (Q0 outR s) w):=by
 have hbw:=h.v.lt;have CI:=Zh (qQ7 h);have hn64:=jQO s;have CE:=Zh (fun (w1:World) (s1:List UInt8 × Bool) (h1:EyeS W0 b s1 w1)=>jYz h1);obtain ⟨F,hF⟩:∃ F,Q0 outR s=F:=⟨_,rfl⟩;rw [hF];unfold Q0 at hF;generalize (idR s).1=n at CI hn64 hF;generalize (idR s).2=s1 at CI hF;have HF:=Zh hF;clear h hF;obtain ⟨l1,d1⟩:=s1;simp only at HF;go_enter Tryz.func99,Tryz.ntmps99;go_wp2_with fail;refine CI.out.mono ?_;rintro e w1 ⟨rfl,h1,h2⟩;have H1:=Zh h1;have O1:=Zh h2;have hlen:=h1.n;simp only at hlen;clear h1 h2 CI;obtain ⟨hz,x0,x1,z0,z1⟩:=ebox H1.out;simp only at x0 x1
 by_cases hgt:l1.length < n
 case' pos=>
  have b1:decide ((l1.length:Int) < (n:Int))=true:=by simpa using hgt
  have HF2:Hid (Yv outR n (l1,true)=F):=Zh (by rw [<- HF.out,if_pos hgt]);go_wp2_with fail;refine Qg (fun v=>Hid (EyeS W0 b (l1,true) v)/\Hid (Oth b w v)) ⟨H1.out.mark,O1.out.set _⟩ ?_;rintro Y ⟨HS,HO⟩;have HI:Hid (SoI outK UB.p outR W0 w b F n [] (l1,true) (.slice none 0 0) Y):=Zh (SoI.start HF2.out HS.out HO.out (.inl rfl));clear b1 HF2 HS HO
 case' neg=>
  have b1:decide ((l1.length:Int) < (n:Int))=false:=by simpa using hgt
  have b2:¬ (l1.length:Int) < (n:Int):=by omega
  have HF2:Hid (Yv outR n (l1,d1)=F):=Zh (by rw [<- HF.out,if_neg hgt]);go_wp2_with fail;have HI:Hid (SoI outK UB.p outR W0 w b F n [] (l1,d1) (.slice none 0 0) w1):=Zh (SoI.start HF2.out H1.out O1.out (.inr (by omega)));clear b1 b2 HF2
 all_goals
  clear H1 O1 hz x0 x1 z0 z1 HF hgt;go_loopw [5,6] (fun n v wr=>SoLG outK UB.p outR W0 w b F n v wr) (fun n _ _=>(intOf n).toNat)
  case atStart=>exact ⟨n,[],_,rfl,hn64,HI⟩
  case round=>
   clear HI;obtain ⟨m,ys,s,rfl,hm64,HI⟩:=hrel;obtain ⟨wo,rfl⟩:∃ wo,wo=wr:=⟨_,rfl⟩;obtain ⟨hz,x0,x1,z0,z1⟩:=ebox HI.out.eye;obtain ⟨l,d⟩:=s;simp only at x0 x1;cases m with
   | zero=>
    have HX:=Zh (HI.out.done (.inl rfl));have b4:((0:Nat):Int)=0:=rfl;clear HI;go_wp2_with fail;go_ret;exact HX.out
   | succ m=>
    have b5:decide ((0:Int) < ((m+1:Nat):Int))=true:=by simp
    cases d with
    | true=>
     have HX:=Zh (HI.out.done (.inr rfl));clear HI;go_wp2_with fail;go_ret;exact HX.out
    | false=>
     have hfw:ys.length+(m+1)<=1500000:=by simpa using HI.out.few
     have CT:=Zh (CE.out _ _ HI.out.eye);go_wp2_with fail;refine CT.out.mono ?_;rintro e w2 ⟨y,rfl,hy,hp,hs,ho⟩;have HY:=Zh hy;have HP:=Zh hp;have HS:=Zh hs;have HO:=Zh ho;have HR:=Zh (HI.out.row.oth ho hbw);have hz1:=HI.out.oth.size;have hz2:=ho.size;clear hy hp hs ho CT x0 x1 z0 z1;have HG:=Zh (Var.new w2 (outK).T ((outK).cells y));have HLN:=Zh (show (ys.map (outK).cells).length=ys.length by rw [List.length_map]);have HC1:=Zh ((outK).one y);dsimp only [outK,UB.val] at HR HG HLN HC1 ⊢;go_wp2_with (at_builtin;refine Q8 outT rfl _ _ rfl w.heap.size u6 (ys.map (outK).cells) ys.length HLN.out rfl (HR.out.alloc _) ((outK).cells y) rfl HC1.out w2.heap.size rfl (fun j _=>HG.out.cell j) ?a3 ?a4 ?_)
     case a3=>omega
     case a4=>first | omega | (simp;omega)
     intro g' cap w3 hr hb hst hat _;have HI3:=Zh (HI.out.next hbw HY.out HP.out HS.out HO.out hr hb hst hat);clear hr hb hst hat HI HY HP HS HO HR HG HLN HC1;go_wp2_with fail;go_roundw
     case rel=>exact ⟨m,ys++[y],_,by go_num,by omega,HI3⟩
     case measure=>simp [intOf]<;>omega
theorem xJU {W0 w:World} {b:Nat} {s:List UInt8 × Bool} (h:EyeS W0 b s w) :
  Calls Tryz.prog 159 #[.pointer (some ⟨b,0,none⟩)] w (TkR Kb InB.p W0 b (Z0 s) w):=by
 have D0:=Zh (ED.start (T:=130) (z:=[.bool false,.int .i64 0,.string ⟨#[]⟩,.slice none 0 0]) h);have hbw:=h.v.lt;clear h;go_enter Tryz.func159,Tryz.ntmps159;go_wp2_with fail;refine (jYh D0.out.eye).mono ?_;rintro e w1 ⟨y1,rfl,m1,p1,h1,o1⟩;obtain ⟨nu1,kn1,ks1⟩:=y1;dsimp only [strK,intK,idK,Yp,keyK];have P1:=Zh p1;have hv1:=D0.out.vv.oth o1 (by have:=D0.out.hb;omega);have VV1:=Zh hv1;have hf1:=hv1.fz;have hl1:=hv1.lt;have D1:=Zh (D0.out.steps h1 o1 0 [.bool nu1,.int .i64 kn1,.string ⟨ks1.toArray⟩]);clear p1 h1 o1 m1 D0 hv1;obtain ⟨x0,x1,x2,x3⟩:=v4 (VV1.out);go_wp2_with fail;clear VV1 hf1 hl1 x0 x1 x2 x3;refine (zJd D1.out.eye).mono ?_;rintro e w2 ⟨v2,y2,rfl,hr2,m2,p2,h2,o2⟩;have P2:=Zh p2;have hf2:=D1.out.fz o2 3;have hgz:=D1.out.hb;have D2:=Zh (D1.out.step h2 o2 3 v2);have VV:Hid (Var w2 (w.heap.size+1) 130 [.bool nu1,.int .i64 kn1,.string ⟨ks1.toArray⟩,.slice none 0 0]):=Zh (D1.out.vv.oth o2 (by omega));have ZZ:=Zh (D1.out.zz.oth o2 (by omega));obtain ⟨a2,c2,hv2,hl2⟩:=LM.of (X:=jQ1) (S:=fun g=>w.heap.size+1 < g) (by decide) hr2 m2 (fun g hg=>Nat.lt_of_lt_of_le D1.out.vv.lt hg);subst hv2;have LB0:=Zh (hl2.put 3 (.slice a2 y2.length c2));clear p2 h2 o2 m2 D1 hr2 hl2;obtain ⟨x0,x1,x2,x3⟩:=v4 (VV.out);have zf:=ZZ.out.fz;have zl:=ZZ.out.lt;obtain ⟨u0,u1,u2,u3⟩:=v4 (ZZ.out);go_wp2_with fail;refine bodyPost_ret (v:=.agg #[.bool nu1,.int .i64 kn1,.string ⟨ks1.toArray⟩,.slice a2 y2.length c2]) (by simp [results,Tryz.results159,go_sem, *]) rfl ?_;obtain ⟨q1,q2⟩:=D2.out.fin [.bool nu1,.int .i64 kn1,.string ⟨ks1.toArray⟩,.slice a2 y2.length c2];refine ⟨⟨nu1,kn1,⟨ks1.toArray⟩,a2,y2,c2⟩,rfl,(LB0.out.fin [.bool nu1,.int .i64 kn1,.string ⟨ks1.toArray⟩,.slice a2 y2.length c2]),?_,q1,q2⟩;have e1:V.mk nu1 kn1 ks1=_:=P1.out;unfold InB.p InB.key Z0 seqR;simp only [Jb,P2.out];rw [<- e1]
theorem zJW {W0 w:World} {b:Nat} {s:List UInt8 × Bool} (h:EyeS W0 b s w)  :
  Calls Tryz.prog 158 #[.pointer (some ⟨b,0,none⟩),.func (.func 159) #[.pointer (some ⟨b,0,none⟩)] #[]] w (SoG Kb InB.p W0 b (Q0 Z0 s) w):=by
 have hbw:=h.v.lt;have CI:=Zh (qQ7 h);have hn64:=jQO s;have CE:=Zh (fun (w1:World) (s1:List UInt8 × Bool) (h1:EyeS W0 b s1 w1)=>xJU h1);obtain ⟨F,hF⟩:∃ F,Q0 Z0 s=F:=⟨_,rfl⟩;rw [hF];unfold Q0 at hF;generalize (idR s).1=n at CI hn64 hF;generalize (idR s).2=s1 at CI hF;have HF:=Zh hF;clear h hF;obtain ⟨l1,d1⟩:=s1;simp only at HF;go_enter Tryz.func158,Tryz.ntmps158;go_wp2_with fail;refine CI.out.mono ?_;rintro e w1 ⟨rfl,h1,h2⟩;have H1:=Zh h1;have O1:=Zh h2;have hlen:=h1.n;simp only at hlen;clear h1 h2 CI;obtain ⟨hz,x0,x1,z0,z1⟩:=ebox H1.out;simp only at x0 x1
 by_cases hgt:l1.length < n
 case' pos=>
  have b1:decide ((l1.length:Int) < (n:Int))=true:=by simpa using hgt
  have HF2:Hid (Yv Z0 n (l1,true)=F):=Zh (by rw [<- HF.out,if_pos hgt]);go_wp2_with fail;refine Qg (fun v=>Hid (EyeS W0 b (l1,true) v)/\Hid (Oth b w v)) ⟨H1.out.mark,O1.out.set _⟩ ?_;rintro Y ⟨HS,HO⟩;have HI:Hid (SoI Kb InB.p Z0 W0 w b F n [] (l1,true) (.slice none 0 0) Y):=Zh (SoI.start HF2.out HS.out HO.out (.inl rfl));clear b1 HF2 HS HO
 case' neg=>
  have b1:decide ((l1.length:Int) < (n:Int))=false:=by simpa using hgt
  have b2:¬ (l1.length:Int) < (n:Int):=by omega
  have HF2:Hid (Yv Z0 n (l1,d1)=F):=Zh (by rw [<- HF.out,if_neg hgt]);go_wp2_with fail;have HI:Hid (SoI Kb InB.p Z0 W0 w b F n [] (l1,d1) (.slice none 0 0) w1):=Zh (SoI.start HF2.out H1.out O1.out (.inr (by omega)));clear b1 b2 HF2
 all_goals
  clear H1 O1 hz x0 x1 z0 z1 HF hgt;go_loopw [5,6] (fun n v wr=>SoLG Kb InB.p Z0 W0 w b F n v wr) (fun n _ _=>(intOf n).toNat)
  case atStart=>exact ⟨n,[],_,rfl,hn64,HI⟩
  case round=>
   clear HI;obtain ⟨m,ys,s,rfl,hm64,HI⟩:=hrel;obtain ⟨wo,rfl⟩:∃ wo,wo=wr:=⟨_,rfl⟩;obtain ⟨hz,x0,x1,z0,z1⟩:=ebox HI.out.eye;obtain ⟨l,d⟩:=s;simp only at x0 x1;cases m with
   | zero=>
    have HX:=Zh (HI.out.done (.inl rfl));have b4:((0:Nat):Int)=0:=rfl;clear HI;go_wp2_with fail;go_ret;exact HX.out
   | succ m=>
    have b5:decide ((0:Int) < ((m+1:Nat):Int))=true:=by simp
    cases d with
    | true=>
     have HX:=Zh (HI.out.done (.inr rfl));clear HI;go_wp2_with fail;go_ret;exact HX.out
    | false=>
     have hfw:ys.length+(m+1)<=1500000:=by simpa using HI.out.few
     have CT:=Zh (CE.out _ _ HI.out.eye);go_wp2_with fail;refine CT.out.mono ?_;rintro e w2 ⟨y,rfl,hy,hp,hs,ho⟩;have HY:=Zh hy;have HP:=Zh hp;have HS:=Zh hs;have HO:=Zh ho;have HR:=Zh (HI.out.row.oth ho hbw);have hz1:=HI.out.oth.size;have hz2:=ho.size;clear hy hp hs ho CT x0 x1 z0 z1;have HG:=Zh (Var.new w2 (Kb).T ((Kb).cells y));have HLN:=Zh (show (ys.map (Kb).cells).length=ys.length by rw [List.length_map]);have HC1:=Zh ((Kb).one y);dsimp only [Kb,InB.val] at HR HG HLN HC1 ⊢;go_wp2_with (at_builtin;refine Q8 instT rfl _ _ rfl w.heap.size u6 (ys.map (Kb).cells) ys.length HLN.out rfl (HR.out.alloc _) ((Kb).cells y) rfl HC1.out w2.heap.size rfl (fun j _=>HG.out.cell j) ?a3 ?a4 ?_)
     case a3=>omega
     case a4=>first | omega | (simp;omega)
     intro g' cap w3 hr hb hst hat _;have HI3:=Zh (HI.out.next hbw HY.out HP.out HS.out HO.out hr hb hst hat);clear hr hb hst hat HI HY HP HS HO HR HG HLN HC1;go_wp2_with fail;go_roundw
     case rel=>exact ⟨m,ys++[y],_,by go_num,by omega,HI3⟩
     case measure=>simp [intOf]<;>omega
