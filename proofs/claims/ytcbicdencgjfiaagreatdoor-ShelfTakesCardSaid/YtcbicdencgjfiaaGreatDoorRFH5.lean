import Derived.Deep.CutRange
import Derived.Test.YtcbicdencgjfiaaGreatDoorApart5
import Derived.Test.YtcbicdencgjfiaaGreatDoorRMeet5
import Derived.Test.YtcbicdencgjfiaaGreatDoorRNS5
set_option linter.all false
set_option maxHeartbeats 4000000
set_option maxRecDepth 20000
namespace Go.Proofs.YtcbicdencgjfiaaGreatDoor
open Go.RowKit Tryst
theorem kYj {s:ByteArray}:s.toList=[]↔s.size=0:=by
 rw [Qp]
 constructor
 · intro h;rw [<- Qx,h];rfl
 · intro h;exact List.eq_nil_of_length_eq_zero (by rw [Qx];exact h)
theorem vYX:∀ (d:Nat) (x:PB),d<=8->∀ w,PO w x->Calls Tryz.prog 171 #[x.agg,.int .i64 d] w fun e w'=>e=.returned (.bool (Kg x.pr d))/\Below w.heap.size w w':=by
  intro d
  induction d with
  | zero=>
    intro x _ w hx;obtain ⟨op,s,num,n,vs,a,c,l⟩:=x;have HH:=Zh (show Kg (PB.mk op s num n vs a c l).pr 0=false by rw [PB.pr,Kg];simp);rw [HH.out];unfold PB.agg;simp only [PB.op,PB.s,PB.num,PB.n,PB.vs,PB.a,PB.c,PB.l];go_enter Tryz.func171,Tryz.ntmps171;go_wp2_with fail
    all_goals
      go_ret;exact ⟨rfl,by repeat (first | exact Below.refl _ _ | refine Y0 ?_ | refine Qj _ ?_)⟩
  | succ d ih=>
    intro x hd w hx;obtain ⟨op,s,num,n,vs,a,c,l⟩:=x;obtain ⟨⟨-,hs,hvs,hl⟩,-,hrow,hel⟩:=PO.parts hx;have HRW:=Zh hrow;have HEL:=Zh hel;have HIH:=Zh ih;have HH:=Zh (show Kg (PB.mk op s num n vs a c l).pr (d+1)=(Z6 op s num n vs l.length&&jQL (PB.prs l) d) by rw [PB.pr,Kg,PB.prs_len];simp);obtain ⟨R,hR⟩:∃ R,Kg (PB.mk op s num n vs a c l).pr (d+1)=R:=⟨_,rfl⟩;rw [hR] at HH ⊢;clear hR hx hrow hel ih;unfold PB.agg;simp only [PB.op,PB.s,PB.num,PB.n,PB.vs,PB.a,PB.c,PB.l];go_enter Tryz.func171,Tryz.ntmps171;go_upto_region 1 with fail
    refine Qg (fun v=>Hid (BX v w.heap.size op s num n vs (.slice a l.length c))/\Hid (Below w.heap.size w v)) ⟨BX.new w op s num n vs (.slice a l.length c),Qj _ (.refl _ _)⟩ ?_;rintro Y ⟨HX,HB⟩;obtain ⟨B,hB⟩:∃ B,w.heap.size=B:=⟨_,rfl⟩;rw [hB] at HX ⊢;obtain ⟨x0,x1,x2,x3,x4,x5,x6⟩:=HX.out.box;obtain ⟨nb,hnb⟩:∃ nb,noV num n vs=nb:=⟨_,rfl⟩;have HNB:=Zh hnb;rw [show ((d+1:Nat):Int)=(d:Int)+1 by omega];generalize (Value.agg #[.string op,.string s,.bool num,.int .i64 n,.string vs,.slice a l.length c])=A0
    go_cut [5] from 6 to 9 (fun u wx=>u=.bool nb/\wx=Y)
    case first=>
      go_wp2_with fail
      all_goals
        go_meet
      all_goals
        refine And.intro ?_ rfl;rw [HNB.out.symm]
        first
          | (have e:vs.size=0:=kYj.1 (by assumption)
             simp only [noV,e];simp [*])
          | (have e:¬ vs.size=0:=fun e=>(by assumption:¬ vs.toList=[]) (kYj.2 e)
             simp only [noV,e];simp [*])
          | (simp only [noV]
             simp [*])
    case rest=>
    obtain ⟨rfl,rfl⟩:=hcut;clear hnb;have yd:¬ ((d:Int)+1=0):=by omega
    rcases jJM op with ⟨k,rfl⟩ | ⟨hop,q1,q2,q3,q4,q5,q6,q7,q8⟩
    rotate_left
    · have HR:Hid (R=false):=by
        show _=_;rw [HH.out];unfold Z6;rw [hop];rfl
      clear hop;go_wp2_with fail;go_ret;exact ⟨Qq HR.out.symm,by first | exact HB.out | (rw [<- hB];exact HB.out)⟩
    have HA:=Zh (Yf k s num n vs l.length)
    have hzs:(s.toList==[])=decide (s.size=0):=by
      rw [Bool.eq_iff_iff];simp [kYj]
    obtain ⟨sz,hsz⟩:∃ b,decide (s.size=0)=b:=⟨_,rfl⟩;rw [hsz] at hzs;have HSZ:=Zh hsz;clear hsz;cases k with
    | all=>
      unfold Opk.text at x0 HX
      by_cases hl0:l.length=0
      all_goals
        have HL0:=Zh hl0
        first | (have y2:((l.length:Int)==0)=true:=by rw [beq_iff_eq];omega) | (have y2:((l.length:Int)==0)=false:=by rw [beq_eq_false_iff_ne];omega)
        clear hl0;cases sz<;>cases nb
        all_goals
          go_wp2_with fail;go_ret;refine ⟨Qq ?_,by first | exact HB.out | (rw [<- hB];exact HB.out)⟩;rw [HH.out,HA.out];dsimp only [Jj];rw [HSZ.out,HNB.out];have hl0:=HL0.out
          first | (rw [List.eq_nil_of_length_eq_zero hl0,PB.prs,jQL];rfl) | simp [hl0]
    | topic=>
      have HC:=Zh (fun W=>zYM s (by omega) W);obtain ⟨gb,hgb⟩:∃ b,Yz s.data.toList=b:=⟨_,rfl⟩;rw [hgb] at HC;have HG:=Zh hgb;clear hgb hzs;unfold Opk.text at x0 HX
      by_cases hl0:l.length=0
      all_goals
        have HL0:=Zh hl0
        first | (have y2:((l.length:Int)==0)=true:=by rw [beq_iff_eq];omega) | (have y2:((l.length:Int)==0)=false:=by rw [beq_eq_false_iff_ne];omega)
        clear hl0;go_wp2_with fail;refine (HC.out _).mono ?_;rintro e w1 ⟨rfl,hb1⟩;have HB1:=Zh (Qk hb1 HB.out);have HX1:=Zh (HX.out.grow hb1);clear hb1 x0 x1 x2 x3 x4 x5 x6;obtain ⟨x0,x1,x2,x3,x4,x5,x6⟩:=HX1.out.box;cases gb<;>cases nb
        all_goals
          go_wp2_with fail;go_ret;refine ⟨Qq ?_,by first | exact HB1.out | (rw [<- hB];exact HB1.out)⟩;rw [HH.out,HA.out];dsimp only [Jj];rw [HG.out,HNB.out];have hl0:=HL0.out
          first | (rw [List.eq_nil_of_length_eq_zero hl0,PB.prs,jQL];rfl) | simp [hl0]
    | has=>
      have HC:=Zh (fun W=>J1 s (by omega) W);obtain ⟨gb,hgb⟩:∃ b,Q5 s.data.toList=b:=⟨_,rfl⟩;rw [hgb] at HC;have HG:=Zh hgb;clear hgb hzs;unfold Opk.text at x0 HX
      by_cases hl0:l.length=0
      all_goals
        have HL0:=Zh hl0
        first | (have y2:((l.length:Int)==0)=true:=by rw [beq_iff_eq];omega) | (have y2:((l.length:Int)==0)=false:=by rw [beq_eq_false_iff_ne];omega)
        clear hl0;go_wp2_with fail;refine (HC.out _).mono ?_;rintro e w1 ⟨rfl,hb1⟩;have HB1:=Zh (Qk hb1 HB.out);have HX1:=Zh (HX.out.grow hb1);clear hb1 x0 x1 x2 x3 x4 x5 x6;obtain ⟨x0,x1,x2,x3,x4,x5,x6⟩:=HX1.out.box;cases gb<;>cases nb
        all_goals
          go_wp2_with fail;go_ret;refine ⟨Qq ?_,by first | exact HB1.out | (rw [<- hB];exact HB1.out)⟩;rw [HH.out,HA.out];dsimp only [Jj];rw [HG.out,HNB.out];have hl0:=HL0.out
          first | (rw [List.eq_nil_of_length_eq_zero hl0,PB.prs,jQL];rfl) | simp [hl0]
    | eq=>
      have HC:=Zh (fun W=>J1 s (by omega) W);obtain ⟨gb,hgb⟩:∃ b,Q5 s.data.toList=b:=⟨_,rfl⟩;rw [hgb] at HC;have HG:=Zh hgb;have HV:=Zh (fun W=>kYW num n vs (by omega) W);obtain ⟨mv,hmv⟩:∃ b,V.mayB ⟨num,n,vs.data.toList⟩=b:=⟨_,rfl⟩;rw [hmv] at HV;have HGM:=Zh hmv;clear hgb hmv hzs;unfold Opk.text at x0 HX
      by_cases hl0:l.length=0
      all_goals
        have HL0:=Zh hl0
        first | (have y2:((l.length:Int)==0)=true:=by rw [beq_iff_eq];omega) | (have y2:((l.length:Int)==0)=false:=by rw [beq_eq_false_iff_ne];omega)
        clear hl0;go_wp2_with fail;refine (HC.out _).mono ?_;rintro e w1 ⟨rfl,hb1⟩;have HB1:=Zh (Qk hb1 HB.out);have HX1:=Zh (HX.out.grow hb1);clear hb1 x0 x1 x2 x3 x4 x5 x6;obtain ⟨x0,x1,x2,x3,x4,x5,x6⟩:=HX1.out.box;cases gb
        · go_wp2_with fail
          go_ret;refine ⟨Qq ?_,by first | exact HB1.out | (rw [<- hB];exact HB1.out)⟩;rw [HH.out,HA.out];dsimp only [Jj];rw [HG.out];simp
        · go_wp2_with fail
          refine (HV.out _).mono ?_;rintro e w2 ⟨rfl,hb2⟩;have HB2:=Zh (Qk hb2 HB1.out);have HX2:=Zh (HX1.out.grow hb2);clear hb2 x0 x1 x2 x3 x4 x5 x6;obtain ⟨x0,x1,x2,x3,x4,x5,x6⟩:=HX2.out.box;cases mv
          all_goals
            go_wp2_with fail;go_ret;refine ⟨Qq ?_,by first | exact HB2.out | (rw [<- hB];exact HB2.out)⟩;rw [HH.out,HA.out];dsimp only [Jj];rw [HG.out,HGM.out];have hl0:=HL0.out
            first | (rw [List.eq_nil_of_length_eq_zero hl0,PB.prs,jQL];rfl) | simp [hl0]
    | lt=>
      have HC:=Zh (fun W=>J1 s (by omega) W);obtain ⟨gb,hgb⟩:∃ b,Q5 s.data.toList=b:=⟨_,rfl⟩;rw [hgb] at HC;have HG:=Zh hgb;have HV:=Zh (fun W=>kYW num n vs (by omega) W);obtain ⟨mv,hmv⟩:∃ b,V.mayB ⟨num,n,vs.data.toList⟩=b:=⟨_,rfl⟩;rw [hmv] at HV;have HGM:=Zh hmv;clear hgb hmv hzs;unfold Opk.text at x0 HX
      by_cases hl0:l.length=0
      all_goals
        have HL0:=Zh hl0
        first | (have y2:((l.length:Int)==0)=true:=by rw [beq_iff_eq];omega) | (have y2:((l.length:Int)==0)=false:=by rw [beq_eq_false_iff_ne];omega)
        clear hl0;go_wp2_with fail;refine (HC.out _).mono ?_;rintro e w1 ⟨rfl,hb1⟩;have HB1:=Zh (Qk hb1 HB.out);have HX1:=Zh (HX.out.grow hb1);clear hb1 x0 x1 x2 x3 x4 x5 x6;obtain ⟨x0,x1,x2,x3,x4,x5,x6⟩:=HX1.out.box;cases gb
        · go_wp2_with fail
          go_ret;refine ⟨Qq ?_,by first | exact HB1.out | (rw [<- hB];exact HB1.out)⟩;rw [HH.out,HA.out];dsimp only [Jj];rw [HG.out];simp
        · go_wp2_with fail
          refine (HV.out _).mono ?_;rintro e w2 ⟨rfl,hb2⟩;have HB2:=Zh (Qk hb2 HB1.out);have HX2:=Zh (HX1.out.grow hb2);clear hb2 x0 x1 x2 x3 x4 x5 x6;obtain ⟨x0,x1,x2,x3,x4,x5,x6⟩:=HX2.out.box;cases mv
          all_goals
            go_wp2_with fail;go_ret;refine ⟨Qq ?_,by first | exact HB2.out | (rw [<- hB];exact HB2.out)⟩;rw [HH.out,HA.out];dsimp only [Jj];rw [HG.out,HGM.out];have hl0:=HL0.out
            first | (rw [List.eq_nil_of_length_eq_zero hl0,PB.prs,jQL];rfl) | simp [hl0]
    | not=>
      unfold Opk.text at x0 HX
      by_cases hl0:l.length=1
      · cases sz
        · have HL0:=Zh hl0
          first | (have y2:((l.length:Int)==1)=true:=by rw [beq_iff_eq];omega) | (have y2:((l.length:Int)==1)=false:=by rw [beq_eq_false_iff_ne];omega)
          clear hl0;go_wp2_with fail;go_ret;refine ⟨Qq ?_,by first | exact HB.out | (rw [<- hB];exact HB.out)⟩;rw [HH.out,HA.out];dsimp only [Jj];rw [HSZ.out,HNB.out];have hl0:=HL0.out;simp [hl0]
        cases nb
        · have HL0:=Zh hl0
          first | (have y2:((l.length:Int)==1)=true:=by rw [beq_iff_eq];omega) | (have y2:((l.length:Int)==1)=false:=by rw [beq_eq_false_iff_ne];omega)
          clear hl0;go_wp2_with fail;go_ret;refine ⟨Qq ?_,by first | exact HB.out | (rw [<- hB];exact HB.out)⟩;rw [HH.out,HA.out];dsimp only [Jj];rw [HSZ.out,HNB.out];have hl0:=HL0.out;simp [hl0]
        obtain ⟨y,rfl⟩:=List.length_eq_one_iff.1 hl0
        have HRR:=Zh (show R=Kg y.pr d by
          rw [HH.out,HA.out];dsimp only [Jj];rw [HSZ.out,HNB.out,PB.prs,PB.prs,jQL,jQL];simp)
        have RR:=HRW.out.grow HB.out;obtain ⟨rb,ro,rfl,-⟩:=RR.head (i:=0) (by simp);obtain ⟨_,rc⟩:=RR.at (i:=0) (by simp);have r0:=rc 0 (by omega);have r1:=rc 1 (by omega);have r2:=rc 2 (by omega);have r3:=rc 3 (by omega);have r4:=rc 4 (by omega);have r5:=rc 5 (by omega);simp [PB.cells] at r0 r1 r2 r3 r4 r5;clear rc;have HC:=Zh (HIH.out y (by omega) _ ((HEL.out y (by simp)).grow HB.out));obtain ⟨fy,hfy⟩:∃ b,Kg y.pr d=b:=⟨_,rfl⟩;rw [hfy] at HC HRR;unfold PB.agg at HC;clear RR hfy hl0;go_wp2_with fail;refine HC.out.mono ?_;rintro e w1 ⟨rfl,hb1⟩;have HB1:=Zh (Qk hb1 HB.out);clear hb1 r0 r1 r2 r3 r4 r5 x0 x1 x2 x3 x4 x5 x6 HC;go_wp2_with fail;go_ret;exact ⟨Qq HRR.out.symm,by first | exact HB1.out | (rw [<- hB];exact HB1.out)⟩
      · cases sz<;>cases nb
        all_goals
          have HL0:=Zh hl0
          first | (have y2:((l.length:Int)==1)=true:=by rw [beq_iff_eq];omega) | (have y2:((l.length:Int)==1)=false:=by rw [beq_eq_false_iff_ne];omega)
          clear hl0;go_wp2_with fail;go_ret;refine ⟨Qq ?_,by first | exact HB.out | (rw [<- hB];exact HB.out)⟩;rw [HH.out,HA.out];dsimp only [Jj];rw [HSZ.out,HNB.out];have hl0:=HL0.out;simp [hl0]
    | and=>
      unfold Opk.text at x0 HX
      by_cases hl0:l.length=2
      · cases sz
        · have HL0:=Zh hl0
          first | (have y2:((l.length:Int)==2)=true:=by rw [beq_iff_eq];omega) | (have y2:((l.length:Int)==2)=false:=by rw [beq_eq_false_iff_ne];omega)
          clear hl0;go_wp2_with fail;go_ret;refine ⟨Qq ?_,by first | exact HB.out | (rw [<- hB];exact HB.out)⟩;rw [HH.out,HA.out];dsimp only [Jj];rw [HSZ.out,HNB.out];have hl0:=HL0.out;simp [hl0]
        cases nb
        · have HL0:=Zh hl0
          first | (have y2:((l.length:Int)==2)=true:=by rw [beq_iff_eq];omega) | (have y2:((l.length:Int)==2)=false:=by rw [beq_eq_false_iff_ne];omega)
          clear hl0;go_wp2_with fail;go_ret;refine ⟨Qq ?_,by first | exact HB.out | (rw [<- hB];exact HB.out)⟩;rw [HH.out,HA.out];dsimp only [Jj];rw [HSZ.out,HNB.out];have hl0:=HL0.out;simp [hl0]
        obtain ⟨y,z,rfl⟩:∃ y z,l=[y,z]:=by
          match l,hl0 with
          | [y,z],_=>exact ⟨y,z,rfl⟩
        have HRR:=Zh (show R=(Kg y.pr d&&Kg z.pr d) by
          rw [HH.out,HA.out];dsimp only [Jj];rw [HSZ.out,HNB.out,PB.prs,PB.prs,PB.prs,jQL,jQL,jQL];simp)
        have RR:=HRW.out.grow HB.out;obtain ⟨rb,ro,rfl,-⟩:=RR.head (i:=0) (by simp);obtain ⟨_,rc⟩:=RR.at (i:=0) (by simp);have r0:=rc 0 (by omega);have r1:=rc 1 (by omega);have r2:=rc 2 (by omega);have r3:=rc 3 (by omega);have r4:=rc 4 (by omega);have r5:=rc 5 (by omega);simp [PB.cells] at r0 r1 r2 r3 r4 r5;clear rc;have HC:=Zh (HIH.out y (by omega) _ ((HEL.out y (by simp)).grow HB.out));have HC2:=Zh (fun W (hb:Below w.heap.size w W)=>HIH.out z (by omega) W ((HEL.out z (by simp)).grow hb));obtain ⟨fy,hfy⟩:∃ b,Kg y.pr d=b:=⟨_,rfl⟩;obtain ⟨fz,hfz⟩:∃ b,Kg z.pr d=b:=⟨_,rfl⟩;rw [hfy] at HC HRR;rw [hfz] at HC2 HRR;unfold PB.agg at HC HC2;clear RR hfy hfz hl0;go_wp2_with fail;refine HC.out.mono ?_;rintro e w1 ⟨rfl,hb1⟩;have HB1:=Zh (Qk hb1 HB.out);have HX1:=Zh (HX.out.grow hb1);clear hb1 r0 r1 r2 r3 r4 r5 x0 x1 x2 x3 x4 x5 x6 HC;obtain ⟨x0,x1,x2,x3,x4,x5,x6⟩:=HX1.out.box;cases fy
        · go_wp2_with fail
          go_ret;exact ⟨Qq HRR.out.symm,by first | exact HB1.out | (rw [<- hB];exact HB1.out)⟩
        · have RR:=HRW.out.grow HB1.out
          obtain ⟨_,rc⟩:=RR.at (i:=1) (by simp);have r0:=rc 0 (by omega);have r1:=rc 1 (by omega);have r2:=rc 2 (by omega);have r3:=rc 3 (by omega);have r4:=rc 4 (by omega);have r5:=rc 5 (by omega);simp [PB.cells] at r0 r1 r2 r3 r4 r5;clear rc;clear RR;go_wp2_with fail;refine (HC2.out _ HB1.out).mono ?_;rintro e w2 ⟨rfl,hb2⟩;have HB2:=Zh (Qk hb2 HB1.out);clear hb2 r0 r1 r2 r3 r4 r5 x0 x1 x2 x3 x4 x5 x6 HC2;go_wp2_with fail;go_ret;exact ⟨Qq HRR.out.symm,by first | exact HB2.out | (rw [<- hB];exact HB2.out)⟩
      · cases sz<;>cases nb
        all_goals
          have HL0:=Zh hl0
          first | (have y2:((l.length:Int)==2)=true:=by rw [beq_iff_eq];omega) | (have y2:((l.length:Int)==2)=false:=by rw [beq_eq_false_iff_ne];omega)
          clear hl0;go_wp2_with fail;go_ret;refine ⟨Qq ?_,by first | exact HB.out | (rw [<- hB];exact HB.out)⟩;rw [HH.out,HA.out];dsimp only [Jj];rw [HSZ.out,HNB.out];have hl0:=HL0.out;simp [hl0]
    | or=>
      unfold Opk.text at x0 HX
      by_cases hl0:l.length=2
      · cases sz
        · have HL0:=Zh hl0
          first | (have y2:((l.length:Int)==2)=true:=by rw [beq_iff_eq];omega) | (have y2:((l.length:Int)==2)=false:=by rw [beq_eq_false_iff_ne];omega)
          clear hl0;go_wp2_with fail;go_ret;refine ⟨Qq ?_,by first | exact HB.out | (rw [<- hB];exact HB.out)⟩;rw [HH.out,HA.out];dsimp only [Jj];rw [HSZ.out,HNB.out];have hl0:=HL0.out;simp [hl0]
        cases nb
        · have HL0:=Zh hl0
          first | (have y2:((l.length:Int)==2)=true:=by rw [beq_iff_eq];omega) | (have y2:((l.length:Int)==2)=false:=by rw [beq_eq_false_iff_ne];omega)
          clear hl0;go_wp2_with fail;go_ret;refine ⟨Qq ?_,by first | exact HB.out | (rw [<- hB];exact HB.out)⟩;rw [HH.out,HA.out];dsimp only [Jj];rw [HSZ.out,HNB.out];have hl0:=HL0.out;simp [hl0]
        obtain ⟨y,z,rfl⟩:∃ y z,l=[y,z]:=by
          match l,hl0 with
          | [y,z],_=>exact ⟨y,z,rfl⟩
        have HRR:=Zh (show R=(Kg y.pr d&&Kg z.pr d) by
          rw [HH.out,HA.out];dsimp only [Jj];rw [HSZ.out,HNB.out,PB.prs,PB.prs,PB.prs,jQL,jQL,jQL];simp)
        have RR:=HRW.out.grow HB.out;obtain ⟨rb,ro,rfl,-⟩:=RR.head (i:=0) (by simp);obtain ⟨_,rc⟩:=RR.at (i:=0) (by simp);have r0:=rc 0 (by omega);have r1:=rc 1 (by omega);have r2:=rc 2 (by omega);have r3:=rc 3 (by omega);have r4:=rc 4 (by omega);have r5:=rc 5 (by omega);simp [PB.cells] at r0 r1 r2 r3 r4 r5;clear rc;have HC:=Zh (HIH.out y (by omega) _ ((HEL.out y (by simp)).grow HB.out));have HC2:=Zh (fun W (hb:Below w.heap.size w W)=>HIH.out z (by omega) W ((HEL.out z (by simp)).grow hb));obtain ⟨fy,hfy⟩:∃ b,Kg y.pr d=b:=⟨_,rfl⟩;obtain ⟨fz,hfz⟩:∃ b,Kg z.pr d=b:=⟨_,rfl⟩;rw [hfy] at HC HRR;rw [hfz] at HC2 HRR;unfold PB.agg at HC HC2;clear RR hfy hfz hl0;go_wp2_with fail;refine HC.out.mono ?_;rintro e w1 ⟨rfl,hb1⟩;have HB1:=Zh (Qk hb1 HB.out);have HX1:=Zh (HX.out.grow hb1);clear hb1 r0 r1 r2 r3 r4 r5 x0 x1 x2 x3 x4 x5 x6 HC;obtain ⟨x0,x1,x2,x3,x4,x5,x6⟩:=HX1.out.box;cases fy
        · go_wp2_with fail
          go_ret;exact ⟨Qq HRR.out.symm,by first | exact HB1.out | (rw [<- hB];exact HB1.out)⟩
        · have RR:=HRW.out.grow HB1.out
          obtain ⟨_,rc⟩:=RR.at (i:=1) (by simp);have r0:=rc 0 (by omega);have r1:=rc 1 (by omega);have r2:=rc 2 (by omega);have r3:=rc 3 (by omega);have r4:=rc 4 (by omega);have r5:=rc 5 (by omega);simp [PB.cells] at r0 r1 r2 r3 r4 r5;clear rc;clear RR;go_wp2_with fail;refine (HC2.out _ HB1.out).mono ?_;rintro e w2 ⟨rfl,hb2⟩;have HB2:=Zh (Qk hb2 HB1.out);clear hb2 r0 r1 r2 r3 r4 r5 x0 x1 x2 x3 x4 x5 x6 HC2;go_wp2_with fail;go_ret;exact ⟨Qq HRR.out.symm,by first | exact HB2.out | (rw [<- hB];exact HB2.out)⟩
      · cases sz<;>cases nb
        all_goals
          have HL0:=Zh hl0
          first | (have y2:((l.length:Int)==2)=true:=by rw [beq_iff_eq];omega) | (have y2:((l.length:Int)==2)=false:=by rw [beq_eq_false_iff_ne];omega)
          clear hl0;go_wp2_with fail;go_ret;refine ⟨Qq ?_,by first | exact HB.out | (rw [<- hB];exact HB.out)⟩;rw [HH.out,HA.out];dsimp only [Jj];rw [HSZ.out,HNB.out];have hl0:=HL0.out;simp [hl0]
end Go.Proofs.YtcbicdencgjfiaaGreatDoor
namespace Tryst
open Go
mutual
theorem vQo:∀ x:PB,J9 x=Q9 x.pr
 | .mk op s num n vs a c l=>by rw [J9,PB.pr,Q9,vQ8 l]
theorem vQ8:∀ l:List PB,Xz l=J3 (PB.prs l)
 | []=>by rw [Xz,PB.prs,J3]
 | x :: r=>by rw [Xz,PB.prs,J3,vQo x,vQ8 r]
end
theorem zYF:∀ (d:Nat) (p:Pr),Kg p d=true->Q9 p+1<=2 ^ d:=by
 intro d
 induction d with
 | zero=>
  intro p h;obtain ⟨op,s,num,n,vs,l⟩:=p;rw [Kg] at h;simp at h
 | succ d ih=>
  intro p h;obtain ⟨op,s,num,n,vs,l⟩:=p;obtain ⟨k,rfl,h1,h2⟩:=zQ2 h
  have hl:l.length<=2:=by
   cases k<;>simp only [Jj,Bool.and_eq_true,decide_eq_true_eq] at h1<;>omega
  rw [Q9,Nat.pow_succ];have h0:1<=2 ^ d:=Nat.one_le_two_pow
  match l,hl with
  | [],_=>rw [J3];omega
  | [y],_=>
   rw [jQL,Bool.and_eq_true] at h2;have:=ih y h2.1;rw [J3,J3];omega
  | [y,z],_=>
   rw [jQL,jQL,Bool.and_eq_true,Bool.and_eq_true] at h2;have:=ih y h2.1;have:=ih z h2.2.1;rw [J3,J3,J3];omega
end Tryst
namespace Go.Proofs.YtcbicdencgjfiaaGreatDoor
open Go.RowKit Tryst
theorem vYV (x:PB) (w:World) (hx:PO w x):Calls Tryz.prog 118 #[x.agg] w fun e w'=>e=.returned (.bool (mayP x.pr))/\Below w.heap.size w w':=by
 have HC:=Zh (fun W (hb:Below w.heap.size w W)=>vYX 8 x (by omega) W (hx.grow hb))
 have hN:Kg x.pr 8=true->J9 x<=255:=fun h=>by
  have:=zYF 8 _ h;rw [vQo];omega
 have HC2:=Zh (fun (h:J9 x<=255) W (hb:Below w.heap.size w W)=>zYv 255 x h (by omega) W (hx.grow hb));have HR:=Zh (qQi x.pr);rw [<- vQo] at HR;obtain ⟨R,hR⟩:∃ R,mayP x.pr=R:=⟨_,rfl⟩;obtain ⟨f,hf⟩:∃ f,Kg x.pr 8=f:=⟨_,rfl⟩;obtain ⟨m,hm⟩:∃ m,J9 x=m:=⟨_,rfl⟩;rw [hR] at HR ⊢;rw [hf] at HC HR hN;rw [hm] at HC2 HR hN;rw [show ((8:Nat):Int)=8 from rfl] at HC;have HN:=Zh hN;clear hR hf hm hx hN;obtain ⟨op,s,num,n,vs,a,c,l⟩:=x;unfold PB.agg at HC HC2 ⊢;simp only [PB.op,PB.s,PB.num,PB.n,PB.vs,PB.a,PB.c,PB.l] at HC HC2 ⊢;go_enter Tryz.func118,Tryz.ntmps118;go_upto_region 1 with fail
 refine Qg (fun v=>Hid (BX v w.heap.size op s num n vs (.slice a l.length c))/\Hid (Below w.heap.size w v)) ⟨BX.new w op s num n vs (.slice a l.length c),Qj _ (.refl _ _)⟩ ?_;rintro Y ⟨HX,HB⟩;obtain ⟨B,hB⟩:∃ B,w.heap.size=B:=⟨_,rfl⟩;rw [hB] at HX ⊢;obtain ⟨x0,x1,x2,x3,x4,x5,x6⟩:=HX.out.box;go_wp2_with fail;refine (HC.out _ HB.out).mono ?_;rintro e w1 ⟨rfl,hb1⟩;have HB1:=Zh (Qk hb1 HB.out);have HX1:=Zh (HX.out.grow hb1);clear hb1 x0 x1 x2 x3 x4 x5 x6 HX HB HC;obtain ⟨x0,x1,x2,x3,x4,x5,x6⟩:=HX1.out.box;cases f
 · go_wp2_with fail;go_ret;exact ⟨Qq HR.out.symm,HB1.out⟩
 ·
  have h255:=HN.out rfl;go_wp2_with fail;refine (HC2.out h255 _ HB1.out).mono ?_;rintro e w2 ⟨rfl,hb2⟩;have HB2:=Zh (Qk hb2 HB1.out);clear hb2 x0 x1 x2 x3 x4 x5 x6 HX1 HC2 HN
  by_cases h40:m<=40
  ·
   have q1:(m:Int)<=40:=by omega
   have HR2:=Zh (show R=true by rw [HR.out];simp [h40]);clear HR h40;go_wp2_with fail;go_ret;exact ⟨Qq (by simp [HR2.out,q1]),HB2.out⟩
  ·
   have q1:¬ (m:Int)<=40:=by omega
   have HR2:=Zh (show R=false by rw [HR.out];simp [h40]);clear HR h40;go_wp2_with fail;go_ret;exact ⟨Qq (by simp [HR2.out,q1]),HB2.out⟩
