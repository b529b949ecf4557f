import Derived.Deep.CutRange
import Derived.BigRegion
import Derived.Test.YtcbicdencgjfiaaGreatDoorApart5
import Derived.Test.YtcbicdencgjfiaaGreatDoorParN
import Derived.Test.YtcbicdencgjfiaaGreatDoorRNS5
set_option linter.all false
set_option maxHeartbeats 4000000
set_option maxRecDepth 20000
namespace Tryst
open Go Go.RowKit Go.Lib
theorem vQj (c:UInt8):∀ l:List UInt8,Lib.index l [c]=match cutC c l with | none=>-1 | some (a,_)=>(a.length:Int)
 | []=>rfl
 | b :: l=>by
  by_cases hb:b=c
  · subst hb;unfold Lib.index;rw [cutC,if_pos rfl];simp
  ·
   have h1:([c]:List UInt8).isPrefixOf (b :: l)=false:=by
    simp [List.isPrefixOf];exact fun h=>hb h.symm
   unfold Lib.index;rw [h1,vQj c l,cutC,if_neg hb]
   rcases cutC c l with _ | ⟨a,r⟩
   · rfl
   ·
    have:¬ ((a.length:Int)==-1)=true:=fun e=>by have:=beq_iff_eq.1 e;omega
    simp [this]
theorem xJ4 (c:UInt8) (l:List UInt8):Lib.cut l [c]=match cutC c l with | none=>(l,[],false) | some (a,r)=>(a,r,true):=by
 unfold Lib.cut;rw [vQj]
 rcases h:cutC c l with _ | ⟨a,r⟩
 · simp
 ·
  obtain ⟨e,_⟩:=Zy h;have h0:(0:Int)<=(a.length:Int):=by omega
  simp only [h0,if_true];rw [e];simp
end Tryst
namespace Go.Proofs.YtcbicdencgjfiaaGreatDoor
open Go.RowKit Tryst
theorem vJx (s:ByteArray) (c:UInt8) (hs:s.size<=1000000000) (W:World) (hM:MaxW W) :
  Calls Tryz.prog 206 #[.string s,.string ⟨#[c]⟩] W fun e w'=>(match cutC c s.data.toList with | none=>e=.returned (.tuple #[.string s,.string ⟨#[]⟩,.bool false]) | some (a,r)=>e=.returned (.tuple #[.string ⟨a.toArray⟩,.string ⟨r.toArray⟩,.bool true]))/\Below W.heap.size W w':=by
 obtain ⟨⟨mm,hm⟩,_⟩:=hM;refine (Tryz.strings_Cut s ⟨#[c]⟩ mm W (by omega) hm).mono ?_;rintro e w' ⟨he,n,hw⟩;refine ⟨?_,by rw [hw];exact kQ7 W n⟩;rw [he,show (⟨#[c]⟩:ByteArray).data.toList=[c] from rfl,xJ4]
 rcases cutC c s.data.toList with _ | ⟨a,r⟩
 · simp
 · simp
theorem RB.set0 {g m:Nat} {s:ByteArray} {w v:World} (h:RB g s m w v) (hg:g < w.heap.size) (s':ByteArray):RB g s' m w (v.setCell ⟨g,0,none⟩ (.string s')):=
 ⟨h.p.set0 s',h.x.away (by omega) _,fun j=>by rw [Qv];exact h.z j⟩
def NamR (R:Option (List UInt8 × List UInt8)) (b:Bool) (f r:ByteArray):Prop:=match R with | none=>b=false | some (a,r')=>b=true/\f=⟨a.toArray⟩/\r=⟨r'.toArray⟩
theorem qJp (g m:Nat) (s op:ByteArray) (hs:s.size<=1500000) (w:World) (hM:MaxW w) (h:Yg w g s m 292) :
  Calls Tryz.prog 232 #[.pointer (some ⟨g,0,none⟩),.string op] w fun e w'=>∃ (b:Bool) (f r:ByteArray),e=.returned (.tuple #[(Jq op f ⟨false,0,[]⟩).agg,.bool b])/\ParP g r m 292 w w'/\NamR (cutC 41 s.data.toList) b f r:=by
 have H:=Zh h;have HM:=Zh hM;obtain ⟨c0,c1,f0,f1,hz⟩:=h.cells;have HC:=Zh (fun W hM=>vJx s 41 (by omega) W hM);obtain ⟨R,hR⟩:∃ R,cutC 41 s.data.toList=R:=⟨_,rfl⟩;rw [hR] at HC ⊢;have HB0:=Zh (Qj (.cells #[.string ⟨#[]⟩,.string ⟨#[]⟩,.bool false,.int .i64 0,.string ⟨#[]⟩,.slice none 0 0] 123) (.refl w.heap.size w));clear h hM hR;go_enter Tryz.func232,Tryz.ntmps232;go_wp2_with fail;refine (HC.out _ (HM.out.grow HB0.out)).mono ?_;rintro e w1 ⟨he,hb1⟩
 obtain ⟨b,f,r,rfl,hf⟩:∃ (b:Bool) (f r:ByteArray),e=.returned (.tuple #[.string f,.string r,.bool b])/\NamR R b f r:=by
  rcases R with _ | ⟨a,r'⟩
  · exact ⟨false,_,_,he,rfl⟩
  · exact ⟨true,_,_,he,rfl,rfl,rfl⟩
 have HR1:=Zh ((RB.start H.out).grow hb1);have HFF:=Zh hf;clear hb1 hf HC;obtain ⟨q1,⟨qx0,qx1,qx2,qx3,qx4,qx5⟩,⟨qz0,qz1,qz2,qz3,qz4,qz5⟩,qzz⟩:=HR1.out.facts;obtain ⟨qg0,qg1,qg2,qg3,qg4⟩:=q1;go_upto_region 3 with fail
 refine Qg (fun v=>Hid (RB g r m w v)) (HR1.out.set0 hz r) ?_;clear HR1 qg0 qg1 qg2 qg3 qg4 qx0 qx1 qx2 qx3 qx4 qx5 qz0 qz1 qz2 qz3 qz4 qz5 qzz;rintro V HV;obtain ⟨⟨qg0,qg1,qg2,qg3,qg4⟩,⟨qx0,qx1,qx2,qx3,qx4,qx5⟩,⟨qz0,qz1,qz2,qz3,qz4,qz5⟩,qzz⟩:=HV.out.facts;go_wp2_with fail;refine bodyPost_ret (v:=.tuple #[(Jq op f ⟨false,0,[]⟩).agg,.bool b]) (by simp [results,Tryz.results232,go_sem,Jq,PB.agg,PB.op,PB.s,PB.num,PB.n,PB.vs,PB.a,PB.c,PB.l, *]) rfl ⟨b,f,r,rfl,?_,HFF.out⟩
 (repeat (first | with_reducible exact HV.out.p | with_reducible apply ParP.drew | with_reducible refine ParP.setB ?_ (Nat.le_refl _) (by omega) _))
theorem vQW (g m:Nat) (s0 op field rest:ByteArray) (v:V) (hr:rest.size<=1500000) (hrd:J0 rest.data.toList=(v,0)) (w:World) (h:Yg w g s0 m 292) :
  Calls Tryz.prog 247 #[.pointer (some ⟨g,0,none⟩),.string op,.string field,.string rest] w fun e w'=>e=.returned (.tuple #[(Jq ⟨#[]⟩ ⟨#[]⟩ ⟨false,0,[]⟩).agg,.bool false])/\ParP g s0 m 292 w w':=by
 have H:=Zh h;have hz:=h.cells.2.2.2.2;have hrc:=zJr rest hr;rw [hrd] at hrc;rw [show kQo 0=2 by unfold kQo;rw [if_pos rfl]] at hrc;have HR:=Zh hrc;clear h hrd hrc;go_enter Tryz.func247,Tryz.ntmps247;go_wp2_with fail;refine (HR.out _).mono ?_;rintro e w1 ⟨rfl,hb1⟩;have HR1:=Zh ((RB.start H.out).grow hb1);clear hb1;obtain ⟨⟨qg0,qg1,qg2,qg3,qg4⟩,⟨qx0,qx1,qx2,qx3,qx4,qx5⟩,⟨qz0,qz1,qz2,qz3,qz4,qz5⟩,qzz⟩:=HR1.out.facts;go_wp2_with fail;refine bodyPost_ret (v:=.tuple #[(Jq ⟨#[]⟩ ⟨#[]⟩ ⟨false,0,[]⟩).agg,.bool false]) (by simp [results,Tryz.results247,go_sem,Jq,PB.agg,PB.op,PB.s,PB.num,PB.n,PB.vs,PB.a,PB.c,PB.l, *]) rfl ⟨rfl,?_⟩
 (repeat (first | with_reducible exact HR1.out.p | with_reducible apply ParP.drew | with_reducible apply jQx | with_reducible refine ParP.setB ?_ (Nat.le_refl _) (by omega) _))
def kQg (g:Nat) (w:World) (R:Rd) (e:Ending) (w':World):Prop:=
 ∃ (y:PB) (t:ByteArray) (m:Nat),e=.returned (.tuple #[y.agg,.bool R.isSome])/\ParP g t m 292 w w'/\∀ p u k,R=some (p,u,k)->y.pr=p/\POwn w' (fun b=>w.heap.size<=b) y/\t.data.toList=u/\m=k
theorem jQ9 {s w:ByteArray} {r:List UInt8} (h:s.data.toList=w.data.toList++r):jQK s w=(⟨r.toArray⟩,true):=by
 unfold jQK;have h1:Lib.hasPrefix s.data.toList w.data.toList=true:=by rw [h];exact kQn _ _
 have h2:Lib.trimPrefix s.data.toList w.data.toList=r:=by
  unfold Lib.trimPrefix;rw [h1,h];simp
 rw [h1,h2]
theorem jQF {s w:ByteArray} (h:¬ Lib.hasPrefix s.data.toList w.data.toList=true):jQK s w=(s,false):=by
 unfold jQK;have h1:Lib.hasPrefix s.data.toList w.data.toList=false:=by simpa using h
 have h2:Lib.trimPrefix s.data.toList w.data.toList=s.data.toList:=by
  unfold Lib.trimPrefix;rw [h1];simp
 rw [h1,h2]
theorem kQ2 (w:World) (S:Nat->Prop) (op s:ByteArray) (v:V) (ho:op.size<=1500000) (hs:s.size<=1500000) (hv:v.s.length<=1500000) (hf:v.Fits):POwn w S (Jq op s v):=
 .mk _ _ _ _ _ _ _ _ ho hs (by show v.s.toArray.size<=_;simpa using hv) (by simp) hf (Row.nil _ _ _) ⟨Nat.le_refl _,fun A e=>(by cases e),fun _=>rfl⟩ (fun b o e=>(by cases e)) (fun b o e=>(by cases e)) (fun x hx=>(by cases hx))
theorem qJ4 (g m:Nat) (hm:m<=40) (r:Nat) (hr:r<=8) (s:ByteArray) (hs:s.size<=1500000) (f:Nat->List UInt8->Rd) (hmx:0≠g)
  (HI:∀ s':ByteArray,s'.size<=1500000->∀ W,MaxW W->Yg W g s' (m+1) 292->Calls Tryz.prog 233 #[.pointer (some ⟨g,0,none⟩),.int .i64 r] W fun e W'=>kQg g W (qQz f (m+1) s'.data.toList) e W')
  (w:World) (hM:MaxW w) (h:Yg w g s m 292) :
  Calls Tryz.prog 220 #[.pointer (some ⟨g,0,none⟩),.int .i64 ((r:Int)+1)] w fun e w'=>kQg g w (if m < 40 then kQP f (m+1) s.data.toList else none) e w':=by
 have HI':=Zh HI;clear HI;have HM:=Zh hM;clear hM;have hgw:=h.cells.2.2.2.2;have HR1:=Zh (RB.start1 h (m+1));obtain ⟨c0,c1,f0,f1,_⟩:=h.cells;have y1:¬ (r:Int)+1 < 1:=by omega
 have y3:wrap64 ((r:Int)+1 - 1)=(r:Int):=by rw [IntWalk.wrap64_in _ (by omega)];omega
 clear h;obtain ⟨R,hR⟩:∃ R,(if m < 40 then kQP f (m+1) s.data.toList else none)=R:=⟨_,rfl⟩;have HRR:=Zh hR;rw [hR];clear hR;go_enter Tryz.func220,Tryz.ntmps220;go_upto_region 2 with fail
 refine Qg (fun v=>Hid (RB g s (m+1) w v)) ?_ ?_
 ·
  show RB _ _ _ _ _
  first | exact HR1.out | (rw [show ((m+1:Nat):Int)=(m:Int)+1 by omega] at HR1;exact HR1.out)
 clear HR1 c0 c1 f0 f1;rintro w1 HR1;obtain ⟨⟨d0,d1,e0,e1,dz⟩,⟨qx0,qx1,qx2,qx3,qx4,qx5⟩,⟨qz0,qz1,qz2,qz3,qz4,qz5⟩,qzz⟩:=HR1.out.facts
 by_cases h40:m < 40
 rotate_left
 ·
  have y2:(40:Int) < (m:Int)+1:=by omega
  have HN:Hid (R=none):=by
   show _=_;rw [<- HRR.out,if_neg h40]
  clear h40;go_wp2_with fail;refine bodyPost_ret (v:=.tuple #[(Jq ⟨#[]⟩ ⟨#[]⟩ ⟨false,0,[]⟩).agg,.bool false]) (by simp [results,Tryz.results220,go_sem,Jq,PB.agg,PB.op,PB.s,PB.num,PB.n,PB.vs,PB.a,PB.c,PB.l, *]) rfl ⟨_,s,m+1,by rw [HN.out];rfl,?_,by rw [HN.out];intro _ _ _ e;cases e⟩
  (repeat (first | with_reducible exact HR1.out.p | with_reducible apply ParP.drew | with_reducible refine ParP.setB ?_ (Nat.le_refl _) (by omega) _))
 ·
  have y2:¬ (40:Int) < (m:Int)+1:=by omega
  have HRH:Hid (R=kQP f (m+1) s.data.toList):=by
   show _=_;rw [<- HRR.out,if_pos h40]
  clear h40 HRR
  by_cases p1:Lib.hasPrefix s.data.toList [97,108,108]=true
  ·
   obtain ⟨r1,e1⟩:=Jg.1 p1
   have HX:Hid (R=some (jQ6 .all [],r1,m+1)):=by
    show _=_;rw [HRH.out];unfold kQP;rw [if_pos p1,e1];rfl
   have S1:=jQ9 (w:=⟨#[97,108,108]⟩) e1;clear p1 e1;go_wp2_with fail;refine (kQA g (m+1) _ _ _ S1 _ HR1.out.p.at').mono ?_;rintro e w2 ⟨rfl,hp2⟩;have HR2:=Zh (HR1.out.step hgw hp2);clear hp2 HR1 d0 d1 e0 e1 dz qx0 qx1 qx2 qx3 qx4 qx5 qz0 qz1 qz2 qz3 qz4 qz5 qzz;obtain ⟨_,⟨qx0,qx1,qx2,qx3,qx4,qx5⟩,⟨qz0,qz1,qz2,qz3,qz4,qz5⟩,qzz⟩:=HR2.out.facts;go_wp2_with fail;refine bodyPost_ret (v:=.tuple #[(Jq ⟨#[97,108,108]⟩ ⟨#[]⟩ ⟨false,0,[]⟩).agg,.bool true]) (by simp [results,Tryz.results220,go_sem,Jq,PB.agg,PB.op,PB.s,PB.num,PB.n,PB.vs,PB.a,PB.c,PB.l, *]) rfl ⟨Jq ⟨#[97,108,108]⟩ ⟨#[]⟩ ⟨false,0,[]⟩,⟨r1.toArray⟩,m+1,by rw [HX.out];rfl,?_,by rw [HX.out];intro p u k e;cases e;exact ⟨by unfold Jq jQ6;rw [PB.pr,PB.prs];rfl,kQ2 _ _ _ _ _ (by decide) (by decide) (by decide) ⟨by decide,by decide⟩,by simp,rfl⟩⟩
   (repeat (first | with_reducible exact HR2.out.p | with_reducible apply ParP.drew | with_reducible refine ParP.setB ?_ (Nat.le_refl _) (by omega) _))
  ·
   have S1:=jQF (s:=s) (w:=⟨#[97,108,108]⟩) p1
   by_cases p2:Lib.hasPrefix s.data.toList [116,111,112,105,99,40]=true
   ·
    obtain ⟨r1,e1⟩:=Jg.1 p2
    have HX:Hid (R=qQK (m+1) ((cutC 41 r1).map fun p=>(jQ8 .topic p.1 V.zero,p.2))):=by
     show _=_;rw [HRH.out];unfold kQP;rw [if_neg p1,if_pos p2,e1];rfl
    have hr1:r1.length<=1500000:=by
     have:=congrArg List.length e1;rw [Qx,List.length_append] at this;omega
    have S2:=jQ9 (w:=⟨#[116,111,112,105,99,40]⟩) e1;clear p1 p2 e1;go_wp2_with fail;refine (jQH g (m+1) _ _ S1 _ HR1.out.p.at').mono ?_;rintro e w2 ⟨rfl,hp2⟩;have HR2:=Zh (HR1.out.step hgw hp2);clear hp2 HR1 d0 d1 e0 e1 dz qx0 qx1 qx2 qx3 qx4 qx5 qz0 qz1 qz2 qz3 qz4 qz5 qzz;go_wp2_with fail;refine (kQA g (m+1) _ _ _ S2 _ HR2.out.p.at').mono ?_;rintro e w3 ⟨rfl,hp3⟩;have HR3:=Zh (HR2.out.step hgw hp3);clear hp3 HR2;go_wp2_with fail;refine (qJp g (m+1) ⟨r1.toArray⟩ ⟨#[116,111,112,105,99]⟩ (by show r1.toArray.size<=_;simp;omega) _ (kQh HR3.out.p HM.out hmx) HR3.out.p.at').mono ?_;rintro e w4 ⟨b,fl,r2,rfl,hp4,hnr⟩;have HR4:=Zh (HR3.out.step hgw hp4);have HNR:=Zh hnr;clear hp4 HR3 hnr;obtain ⟨_,⟨qx0,qx1,qx2,qx3,qx4,qx5⟩,⟨qz0,qz1,qz2,qz3,qz4,qz5⟩,qzz⟩:=HR4.out.facts;unfold Jq PB.agg;simp only [PB.op,PB.s,PB.num,PB.n,PB.vs,PB.a,PB.c,PB.l,List.length_nil]
    have HEND:Hid (R.isSome=b/\∀ p u k,R=some (p,u,k)->(Jq ⟨#[116,111,112,105,99]⟩ fl ⟨false,0,[]⟩).pr=p/\fl.size<=1500000/\r2.data.toList=u/\m+1=k):=by
     show _/\_;rw [HX.out];have hn:=HNR.out;unfold NamR at hn;simp only [show (⟨r1.toArray⟩:ByteArray).data.toList=r1 by simp] at hn
     rcases hc:cutC 41 r1 with _ | ⟨a,r'⟩
     · rw [hc] at hn;exact ⟨by rw [hn];rfl,fun p u k e=>by cases e⟩
     · rw [hc] at hn;obtain ⟨h1,h2,h3⟩:=hn;refine ⟨by rw [h1];rfl,fun p u k e=>?_⟩;cases e;obtain ⟨h4,_⟩:=Zy hc;refine ⟨by rw [h2];unfold Jq jQ8;rw [PB.pr,PB.prs];rfl,?_,by rw [h3],rfl⟩;rw [h2];have:=congrArg List.length h4;rw [List.length_append] at this;show a.toArray.size<=_;simp;omega
    go_wp2_with fail;refine bodyPost_ret (v:=.tuple #[(Jq ⟨#[116,111,112,105,99]⟩ fl ⟨false,0,[]⟩).agg,.bool b]) (by simp [results,Tryz.results220,go_sem,Jq,PB.agg,PB.op,PB.s,PB.num,PB.n,PB.vs,PB.a,PB.c,PB.l, *]) rfl ⟨Jq ⟨#[116,111,112,105,99]⟩ fl ⟨false,0,[]⟩,r2,m+1,by rw [HEND.out.1],?_,fun p u k e=>?_⟩
    · (repeat (first | with_reducible exact HR4.out.p | with_reducible apply ParP.drew | with_reducible refine ParP.setB ?_ (Nat.le_refl _) (by omega) _))
    · obtain ⟨q1,q2,q3,q4⟩:=HEND.out.2 p u k e;exact ⟨q1,kQ2 _ _ _ _ _ (by decide) q2 (by decide) ⟨by decide,by decide⟩,q3,q4⟩
   ·
    have S2:=jQF (s:=s) (w:=⟨#[116,111,112,105,99,40]⟩) p2
    by_cases p3:Lib.hasPrefix s.data.toList [104,97,115,40]=true
    ·
     obtain ⟨r1,e1⟩:=Jg.1 p3
     have HX:Hid (R=qQK (m+1) ((cutC 41 r1).map fun p=>(jQ8 .has p.1 V.zero,p.2))):=by
      show _=_;rw [HRH.out];unfold kQP;rw [if_neg p1,if_neg p2,if_pos p3,e1];rfl
     have hr1:r1.length<=1500000:=by
      have:=congrArg List.length e1;rw [Qx,List.length_append] at this;omega
     have S3:=jQ9 (w:=⟨#[104,97,115,40]⟩) e1;clear p1 p2 p3 e1;go_wp2_with fail;refine (jQH g (m+1) _ _ S1 _ HR1.out.p.at').mono ?_;rintro e w2 ⟨rfl,hp2⟩;have HR2':=Zh (HR1.out.step hgw hp2);clear hp2 HR1 d0 d1 e0 e1 dz qx0 qx1 qx2 qx3 qx4 qx5 qz0 qz1 qz2 qz3 qz4 qz5 qzz;go_wp2_with fail;refine (jQH g (m+1) _ _ S2 _ HR2'.out.p.at').mono ?_;rintro e w2' ⟨rfl,hp2⟩;have HR2:=Zh (HR2'.out.step hgw hp2);clear hp2 HR2';go_wp2_with fail;refine (kQA g (m+1) _ _ _ S3 _ HR2.out.p.at').mono ?_;rintro e w3 ⟨rfl,hp3⟩;have HR3:=Zh (HR2.out.step hgw hp3);clear hp3 HR2;go_wp2_with fail;refine (qJp g (m+1) ⟨r1.toArray⟩ ⟨#[104,97,115]⟩ (by show r1.toArray.size<=_;simp;omega) _ (kQh HR3.out.p HM.out hmx) HR3.out.p.at').mono ?_;rintro e w4 ⟨b,fl,r2,rfl,hp4,hnr⟩;have HR4:=Zh (HR3.out.step hgw hp4);have HNR:=Zh hnr;clear hp4 HR3 hnr;obtain ⟨_,⟨qx0,qx1,qx2,qx3,qx4,qx5⟩,⟨qz0,qz1,qz2,qz3,qz4,qz5⟩,qzz⟩:=HR4.out.facts;unfold Jq PB.agg;simp only [PB.op,PB.s,PB.num,PB.n,PB.vs,PB.a,PB.c,PB.l,List.length_nil]
     have HEND:Hid (R.isSome=b/\∀ p u k,R=some (p,u,k)->(Jq ⟨#[104,97,115]⟩ fl ⟨false,0,[]⟩).pr=p/\fl.size<=1500000/\r2.data.toList=u/\m+1=k):=by
      show _/\_;rw [HX.out];have hn:=HNR.out;unfold NamR at hn;simp only [show (⟨r1.toArray⟩:ByteArray).data.toList=r1 by simp] at hn
      rcases hc:cutC 41 r1 with _ | ⟨a,r'⟩
      · rw [hc] at hn;exact ⟨by rw [hn];rfl,fun p u k e=>by cases e⟩
      · rw [hc] at hn;obtain ⟨h1,h2,h3⟩:=hn;refine ⟨by rw [h1];rfl,fun p u k e=>?_⟩;cases e;obtain ⟨h4,_⟩:=Zy hc;refine ⟨by rw [h2];unfold Jq jQ8;rw [PB.pr,PB.prs];rfl,?_,by rw [h3],rfl⟩;rw [h2];have:=congrArg List.length h4;rw [List.length_append] at this;show a.toArray.size<=_;simp;omega
     go_wp2_with fail;refine bodyPost_ret (v:=.tuple #[(Jq ⟨#[104,97,115]⟩ fl ⟨false,0,[]⟩).agg,.bool b]) (by simp [results,Tryz.results220,go_sem,Jq,PB.agg,PB.op,PB.s,PB.num,PB.n,PB.vs,PB.a,PB.c,PB.l, *]) rfl ⟨Jq ⟨#[104,97,115]⟩ fl ⟨false,0,[]⟩,r2,m+1,by rw [HEND.out.1],?_,fun p u k e=>?_⟩
     · (repeat (first | with_reducible exact HR4.out.p | with_reducible apply ParP.drew | with_reducible refine ParP.setB ?_ (Nat.le_refl _) (by omega) _))
     · obtain ⟨q1,q2,q3,q4⟩:=HEND.out.2 p u k e;exact ⟨q1,kQ2 _ _ _ _ _ (by decide) q2 (by decide) ⟨by decide,by decide⟩,q3,q4⟩
    ·
     have S3:=jQF (s:=s) (w:=⟨#[104,97,115,40]⟩) p3
     by_cases p4:Lib.hasPrefix s.data.toList [40]=true
     ·
      obtain ⟨r1,e1⟩:=Jg.1 p4
      have HX:Hid (R=qQz f (m+1) r1):=by
       show _=_;rw [HRH.out];unfold kQP;rw [if_neg p1,if_neg p2,if_neg p3,if_pos p4,e1];rfl
      have hr1:r1.length<=1500000:=by
       have:=congrArg List.length e1;rw [Qx,List.length_append] at this;omega
      have S4:=jQ9 (w:=⟨#[40]⟩) e1;clear p1 p2 p3 p4 e1;go_wp2_with fail;refine (jQH g (m+1) _ _ S1 _ HR1.out.p.at').mono ?_;rintro e w2 ⟨rfl,hp2⟩;have HR2':=Zh (HR1.out.step hgw hp2);clear hp2 HR1 d0 d1 e0 e1 dz qx0 qx1 qx2 qx3 qx4 qx5 qz0 qz1 qz2 qz3 qz4 qz5 qzz;go_wp2_with fail;refine (jQH g (m+1) _ _ S2 _ HR2'.out.p.at').mono ?_;rintro e w2' ⟨rfl,hp2⟩;have HR2:=Zh (HR2'.out.step hgw hp2);clear hp2 HR2';go_wp2_with fail;refine (jQH g (m+1) _ _ S3 _ HR2.out.p.at').mono ?_;rintro e w3 ⟨rfl,hp3⟩;have HR3:=Zh (HR2.out.step hgw hp3);clear hp3 HR2;go_wp2_with fail;refine (kQA g (m+1) _ _ _ S4 _ HR3.out.p.at').mono ?_;rintro e w4 ⟨rfl,hp4⟩;have HR4:=Zh (HR3.out.step hgw hp4);clear hp4 HR3;have HIN:=HI'.out ⟨r1.toArray⟩ (by show r1.toArray.size<=_;simpa using hr1) w4 (kQh HR4.out.p HM.out hmx) HR4.out.p.at';rw [show (⟨r1.toArray⟩:ByteArray).data.toList=r1 by simp,<- HX.out] at HIN;have HIN2:=Zh HIN;clear HIN HI';go_wp2_with fail;refine HIN2.out.mono ?_;rintro e w5 ⟨y,t,k,rfl,hp5,hy⟩;have hw4:w.heap.size < w4.heap.size:=HR4.out.x.hz;have HR5:=Zh (HR4.out.step hgw hp5);have HYY:=Zh hy;clear hp5 HR4 hy HIN2;obtain ⟨_,⟨qx0,qx1,qx2,qx3,qx4,qx5⟩,⟨qz0,qz1,qz2,qz3,qz4,qz5⟩,qzz⟩:=HR5.out.facts;obtain ⟨b,hb⟩:∃ b,R.isSome=b:=⟨_,rfl⟩;have HBB:=Zh hb;rw [hb];clear hb;obtain ⟨o0,o1,o2,o3,o4,o5,o6,o7⟩:=y;unfold PB.agg;simp only [PB.op,PB.s,PB.num,PB.n,PB.vs,PB.a,PB.c,PB.l];go_wp2_with fail;refine bodyPost_ret (v:=.tuple #[(PB.mk o0 o1 o2 o3 o4 o5 o6 o7).agg,.bool b]) (by simp [results,Tryz.results220,go_sem,PB.agg,PB.op,PB.s,PB.num,PB.n,PB.vs,PB.a,PB.c,PB.l, *]) rfl ⟨PB.mk o0 o1 o2 o3 o4 o5 o6 o7,t,k,by rw [HBB.out],?_,fun p u k e=>?_⟩
      · (repeat (first | with_reducible exact HR5.out.p | with_reducible apply ParP.drew | with_reducible refine ParP.setB ?_ (Nat.le_refl _) (by omega) _))
      ·
       obtain ⟨q1,q2,q3,q4⟩:=HYY.out p u k e;refine ⟨q1,q2.keep (fun j hj _=>?_) (by simp),q3,q4⟩;have hne:j≠w.heap.size:=by omega
       refine ⟨?_,by omega⟩
       repeat rw [Below.heap_setCell _ _ _ _ hne]
     ·
      have HN:Hid (R=none):=by
       show _=_;rw [HRH.out];unfold kQP;rw [if_neg p1,if_neg p2,if_neg p3,if_neg p4]
      have S4:=jQF (s:=s) (w:=⟨#[40]⟩) p4;clear p1 p2 p3 p4;go_wp2_with fail;refine (jQH g (m+1) _ _ S1 _ HR1.out.p.at').mono ?_;rintro e w2 ⟨rfl,hp2⟩;have HR2':=Zh (HR1.out.step hgw hp2);clear hp2 HR1 d0 d1 e0 e1 dz qx0 qx1 qx2 qx3 qx4 qx5 qz0 qz1 qz2 qz3 qz4 qz5 qzz;go_wp2_with fail;refine (jQH g (m+1) _ _ S2 _ HR2'.out.p.at').mono ?_;rintro e w2' ⟨rfl,hp2⟩;have HR2:=Zh (HR2'.out.step hgw hp2);clear hp2 HR2';go_wp2_with fail;refine (jQH g (m+1) _ _ S3 _ HR2.out.p.at').mono ?_;rintro e w3 ⟨rfl,hp3⟩;have HR3:=Zh (HR2.out.step hgw hp3);clear hp3 HR2;go_wp2_with fail;refine (jQH g (m+1) _ _ S4 _ HR3.out.p.at').mono ?_;rintro e w4 ⟨rfl,hp4⟩;have HR4:=Zh (HR3.out.step hgw hp4);clear hp4 HR3;obtain ⟨_,⟨qx0,qx1,qx2,qx3,qx4,qx5⟩,⟨qz0,qz1,qz2,qz3,qz4,qz5⟩,qzz⟩:=HR4.out.facts;go_wp2_with fail;refine bodyPost_ret (v:=.tuple #[(Jq ⟨#[]⟩ ⟨#[]⟩ ⟨false,0,[]⟩).agg,.bool false]) (by simp [results,Tryz.results220,go_sem,Jq,PB.agg,PB.op,PB.s,PB.num,PB.n,PB.vs,PB.a,PB.c,PB.l, *]) rfl ⟨_,s,m+1,by rw [HN.out];rfl,?_,by rw [HN.out];intro _ _ _ e;cases e⟩
      (repeat (first | with_reducible exact HR4.out.p | with_reducible apply ParP.drew | with_reducible refine ParP.setB ?_ (Nat.le_refl _) (by omega) _))
end Go.Proofs.YtcbicdencgjfiaaGreatDoor
namespace Tryst
open Go Go.RowKit
theorem POwn.two {w:World} {S:Nat->Prop} {g:Nat} {T:TypeId} {op r0 r1:ByteArray} {r2:Bool} {r3:Int} {r4:ByteArray} {r5:Option Addr} {r6:Nat} {r7:List PB} {s0 s1:ByteArray} {s2:Bool} {s3:Int} {s4:ByteArray} {s5:Option Addr} {s6:Nat} {s7:List PB} (ho:op.size<=1500000) (hS:S g)
  (h:w.heap[g]?=some (.cells #[.string r0,.string r1,.bool r2,.int .i64 r3,.string r4,.slice r5 r7.length r6,.string s0,.string s1,.bool s2,.int .i64 s3,.string s4,.slice s5 s7.length s6] T (0,0)))
  (hX:POwn w S (.mk r0 r1 r2 r3 r4 r5 r6 r7)) (hY:POwn w S (.mk s0 s1 s2 s3 s4 s5 s6 s7)):POwn w S (.mk op ⟨#[]⟩ false 0 ⟨#[]⟩ (some ⟨g,0,none⟩) 2 [.mk r0 r1 r2 r3 r4 r5 r6 r7,.mk s0 s1 s2 s3 s4 s5 s6 s7]):=by
 have hz:=(Array.getElem?_eq_some_iff.1 h).1
 refine .mk _ _ _ _ _ _ _ _ ho (by decide) (by decide) (by simp) (by omega) ?_ ⟨by simp,fun A e=>by cases e;rfl,fun e=>by cases e⟩ (fun b o e=>by cases e;exact ⟨hS,hz⟩) (fun b o e=>by cases e;exact ⟨_,_,h⟩) (fun x hx=>by
  rcases List.mem_cons.1 hx with rfl | hx
  · exact hX
  · rw [List.mem_singleton] at hx;subst hx;exact hY)
 intro i hi;refine ⟨g,0,rfl,hz,fun j hj=>?_⟩;have hi2:i=0∨i=1:=by simp at hi;omega
 have hj6:j=0∨j=1∨j=2∨j=3∨j=4∨j=5:=by omega
 rcases hi2 with rfl | rfl<;>rcases hj6 with rfl | rfl | rfl | rfl | rfl | rfl<;>simp [World.cell?,h,PB.cells,PB.op,PB.s,PB.num,PB.n,PB.vs,PB.a,PB.c,PB.l]
open Go.Lib
theorem xJy {v:V} (h:v.May):v.s.length<=60:=by
 unfold V.May at h;obtain ⟨num,n,s⟩:=v;cases num with
 | true=>
  have h:s=[]:=by simpa using h
  simp [h]
 | false=>
  have h:n=0/\s.length<=60:=by simpa using h
  exact h.2
theorem vJu {c d:UInt8} {u:List UInt8} (h:¬ c=d):¬ Lib.hasPrefix (c :: u) [d]=true:=fun e=>by
 obtain ⟨r,hr⟩:=Jg.1 e;cases hr;exact h rfl
theorem jJl (s:ByteArray) (a:Nat):(s.extract a s.size).data.toList=s.data.toList.drop a:=by
 rw [zQ7,<- Qx s,List.take_length]
end Tryst
namespace Go.Proofs.YtcbicdencgjfiaaGreatDoor
open Go.RowKit Tryst
theorem xJY (k:Opk) (f:ByteArray) (v:V):(Jq k.text f v).pr=jQ8 k f.data.toList v:=by
 unfold Jq jQ8;rw [PB.pr,PB.prs]
theorem jYG (g m:Nat) (s0 field rest:ByteArray) (k:Opk) (hf:field.size<=1500000) (hr:rest.size<=1500000) (w:World) (h:Yg w g s0 m 292) :
  Calls Tryz.prog 247 #[.pointer (some ⟨g,0,none⟩),.string k.text,.string field,.string rest] w fun e w'=>kQg g w (qQK m (cmpV k field.data.toList rest.data.toList)) e w':=by
 have hkt:k.text.size<=1500000:=by cases k<;>decide
 rcases Nat.eq_zero_or_pos (J0 rest.data.toList).2 with h0 | h0
 · refine (vQW g m s0 k.text field rest (J0 rest.data.toList).1 (by omega) (by rw [<- h0]) w h).mono ?_;rintro e w' ⟨rfl,hp⟩;unfold cmpV;rw [if_pos h0];exact ⟨_,s0,m,rfl,hp,fun _ _ _ e=>by cases e⟩
 ·
  obtain ⟨hmay,hfit,hle,_⟩:=qJc (l:=rest.data.toList) rfl (Nat.pos_iff_ne_zero.1 h0);have hc:=jJu g m s0 k.text field rest _ _ h0 (by rw [Qx] at hle;exact hle) (by omega) rfl w h;have hd:=jJl rest (J0 rest.data.toList).2;have hv:=xJy hmay;unfold cmpV;rw [if_neg (Nat.pos_iff_ne_zero.1 h0)]
  rcases hu:rest.data.toList.drop (J0 rest.data.toList).2 with _ | ⟨c,u⟩
  · rw [jQF (by rw [hd,hu];decide)] at hc;refine hc.mono ?_;rintro e w' ⟨rfl,hp⟩;exact ⟨_,_,m,rfl,hp,fun _ _ _ e=>by cases e⟩
  ·
   dsimp only
   by_cases h41:c=41
   · subst h41;rw [jQ9 (r:=u) (by rw [hd,hu];rfl)] at hc;rw [if_pos rfl];refine hc.mono ?_;rintro e w' ⟨rfl,hp⟩;refine ⟨_,_,m,rfl,hp,fun p u' k' e=>?_⟩;cases e;exact ⟨xJY _ _ _,kQ2 _ _ _ _ _ hkt hf (by omega) hfit,by simp,rfl⟩
   · rw [jQF (by rw [hd,hu];exact vJu h41)] at hc;rw [if_neg h41];refine hc.mono ?_;rintro e w' ⟨rfl,hp⟩;exact ⟨_,_,m,rfl,hp,fun _ _ _ e=>by cases e⟩
end Go.Proofs.YtcbicdencgjfiaaGreatDoor
namespace Tryst
open Go Go.RowKit Go.Lib
theorem zJ7 {r m:Nat} {s:List UInt8} {p:Pr} {u:List UInt8} {k:Nat} (h:parN r m s=some (p,u,k)):k<=40/\u.length<=s.length:=by
 rw [vJq] at h
 rcases hF:Yy r s with _ | ⟨q,z⟩
 · rw [hF] at h;cases h
 ·
  rw [hF] at h;have h:(if m+Q9 q<=40 then some (q,z,m+Q9 q) else none:Rd)=some (p,u,k):=h
  split at h
  · cases h;refine ⟨by omega,?_⟩;rw [vQS r s _ _ hF,List.length_append];omega
  · cases h
theorem POwn.one {w:World} {S:Nat->Prop} {g:Nat} {T:TypeId} {op r0 r1:ByteArray} {r2:Bool} {r3:Int} {r4:ByteArray} {r5:Option Addr} {r6:Nat} {r7:List PB} (ho:op.size<=1500000) (hS:S g) (h:w.heap[g]?=some (.cells #[.string r0,.string r1,.bool r2,.int .i64 r3,.string r4,.slice r5 r7.length r6] T (0,0))) (hX:POwn w S (.mk r0 r1 r2 r3 r4 r5 r6 r7)):POwn w S (.mk op ⟨#[]⟩ false 0 ⟨#[]⟩ (some ⟨g,0,none⟩) 1 [.mk r0 r1 r2 r3 r4 r5 r6 r7]):=by
 have hz:=(Array.getElem?_eq_some_iff.1 h).1;refine .mk _ _ _ _ _ _ _ _ ho (by decide) (by decide) (by simp) (by omega) ?_ ⟨by simp,fun A e=>by cases e;rfl,fun e=>by cases e⟩ (fun b o e=>by cases e;exact ⟨hS,hz⟩) (fun b o e=>by cases e;exact ⟨_,_,h⟩) (fun x hx=>by rw [List.mem_singleton] at hx;subst hx;exact hX);intro i hi;obtain rfl:i=0:=by simpa using hi
 refine ⟨g,0,rfl,hz,fun j hj=>?_⟩;have hj6:j=0∨j=1∨j=2∨j=3∨j=4∨j=5:=by omega
 rcases hj6 with rfl | rfl | rfl | rfl | rfl | rfl<;>simp [World.cell?,h,PB.cells,PB.op,PB.s,PB.num,PB.n,PB.vs,PB.a,PB.c,PB.l]
theorem xJI (s:List UInt8):(jQ0 s).1.length<=s.length/\(jQ0 s).2.length<=s.length:=by
 unfold jQ0
 rcases hc:cutC 32 s with _ | ⟨a,b⟩
 · simp
 · obtain ⟨h,_⟩:=Zy hc;have:=congrArg List.length h;rw [List.length_append] at this;simp at this ⊢;omega
theorem jJY (k:Opk) (l:List Pr) (u:List UInt8):Kx k l u=if Lib.hasPrefix u [41]=true then some (jQ6 k l,u.drop 1) else none:=by
 cases u with
 | nil=>rw [if_neg (by decide)];rfl
 | cons c z=>
  by_cases hc:c=41
  · subst hc;rw [if_pos (show Lib.hasPrefix (41 :: z) [41]=true from kQn [41] z)];rfl
  · rw [if_neg (vJu hc)];exact if_neg hc
end Tryst
namespace Go.Proofs.YtcbicdencgjfiaaGreatDoor
open Go.RowKit Tryst
structure NW (g:Nat) (w4 w5:World):Prop where
 old:∀ j,j < w4.heap.size->j≠g->w5.heap[j]?=w4.heap[j]?
 sz:w4.heap.size<=w5.heap.size
theorem NW.one {g k:Nat} {t:ByteArray} {T:TypeId} {w4 X w5:World} (h:∀ j,j < w4.heap.size->X.heap[j]?=w4.heap[j]?) (hz:w4.heap.size<=X.heap.size) (hp:ParP g t k T X w5):NW g w4 w5:=
 ⟨fun j hj hg=>(hp.block j (Nat.lt_of_lt_of_le hj hz) hg).trans (h j hj),Nat.le_trans hz hp.size⟩
theorem NW.al {w4 X:World} {o:Obj} (h:∀ j,j < w4.heap.size->X.heap[j]?=w4.heap[j]?) (hz:w4.heap.size<=X.heap.size):∀ j,j < w4.heap.size->(X.alloc o).heap[j]?=w4.heap[j]?:=
 fun j hj=>(Below.heap_alloc _ _ _ (Nat.lt_of_lt_of_le hj hz)).trans (h j hj)
theorem World.alloc_size (v:World) (o:Obj):(v.alloc o).heap.size=v.heap.size+1:=by simp
theorem zJU {v:World} {o:Obj} {n:Nat} (h:v.heap.size=n):(v.alloc o).heap[n]?=some o:=by
 subst h;show (v.heap.push _)[v.heap.size]?=_;simp
theorem aftA {g k k' G:Nat} {t t':ByteArray} {w w4 X w5:World} {op s:ByteArray} {num:Bool} {n:Int} {vs:ByteArray} {u:Value} (HR:RB g t k w X) (hz:g < w.heap.size) (HB:BX X G op s num n vs u) (hg:g≠G) (h:∀ j,j < w4.heap.size->X.heap[j]?=w4.heap[j]?) (hz4:w4.heap.size<=X.heap.size) (hp:ParP g t' k' 292 X.drew w5):RB g t' k' w w5/\BX w5 G op s num n vs u/\NW g w4 w5:=by
 have hp:ParP g t' k' 292 X w5:=⟨hp.os,hp.tape,hp.output,hp.size,hp.block,hp.at'⟩;exact ⟨HR.step hz hp,(hp.block G (Array.getElem?_eq_some_iff.1 HB).1 (Ne.symm hg)).trans HB,NW.one h hz4 hp⟩
theorem aftB {g k k' G:Nat} {t t':ByteArray} {w w4 X w5:World} {op s:ByteArray} {num:Bool} {n:Int} {vs:ByteArray} {u:Value} {o:Obj} (HR:RB g t k w X) (hz:g < w.heap.size) (HB:BX X G op s num n vs u) (hg:g≠G) (h:∀ j,j < w4.heap.size->X.heap[j]?=w4.heap[j]?) (hz4:w4.heap.size<=X.heap.size) (hp:ParP g t' k' 292 (X.alloc o).drew w5):RB g t' k' w w5/\BX w5 G op s num n vs u/\NW g w4 w5/\X.heap.size < w5.heap.size/\w5.heap[X.heap.size]?=some o:=by
 have hb:=Qj o (Below.refl X.heap.size X);have hs:(X.alloc o).heap.size=X.heap.size+1:=by simp
 obtain ⟨h1,h2,h3⟩:=aftA (HR.grow hb) hz (HB.grow hb) hg (NW.al h hz4) (by omega) hp;refine ⟨h1,h2,h3,?_,?_⟩
 · have:(X.alloc o).heap.size<=w5.heap.size:=hp.size;omega
 · refine (hp.block X.heap.size (by show X.heap.size < (X.alloc o).heap.size;omega) (by have:=HR.p.at'.cells.2.2.2.2;omega)).trans ?_;show (X.heap.push _)[X.heap.size]?=_;simp
theorem vQO (v:World) (B j:Nat) (hj:j≠B) (a0 a1 a2 a3 a4 a5:Value):((((((v.setCell ⟨B,0,none⟩ a0).setCell ⟨B,1,none⟩ a1).setCell ⟨B,2,none⟩ a2).setCell ⟨B,3,none⟩ a3).setCell ⟨B,4,none⟩ a4).setCell ⟨B,5,none⟩ a5).heap[j]?=v.heap[j]?:=by
 repeat rw [Below.heap_setCell _ _ _ _ hj]
theorem zQ1 (v:World) (B:Nat) (a0 a1 a2 a3 a4 a5:Value):((((((v.setCell ⟨B,0,none⟩ a0).setCell ⟨B,1,none⟩ a1).setCell ⟨B,2,none⟩ a2).setCell ⟨B,3,none⟩ a3).setCell ⟨B,4,none⟩ a4).setCell ⟨B,5,none⟩ a5).heap.size=v.heap.size:=by
 simp
section
variable {g B V gs:Nat} {w4 w5:World} {a0 a1 a2 a3 a4 a5:Value} {T:TypeId} {op r0 r1:ByteArray} {r2:Bool} {r3:Int} {r4:ByteArray} {r5:Option Addr} {r6:Nat} {r7:List PB}
theorem vJM {F:World} (n1:F.heap[gs]?=some (.cells #[.string r0,.string r1,.bool r2,.int .i64 r3,.string r4,.slice r5 r7.length r6] T (0,0))) (n2:∀ j,j < w4.heap.size->j≠g->j≠B->F.heap[j]?=w4.heap[j]?) (n3:w4.heap.size<=F.heap.size) (hB:B < gs) (hV:∀ j,V<=j->j≠g/\j≠B/\B<=j) (ho:op.size<=1500000) (hX:POwn w4 (fun b=>V<=b) (.mk r0 r1 r2 r3 r4 r5 r6 r7)) :
  POwn F (fun b=>B<=b) (.mk op ⟨#[]⟩ false 0 ⟨#[]⟩ (some ⟨gs,0,none⟩) 1 [.mk r0 r1 r2 r3 r4 r5 r6 r7]):=
 POwn.one ho (Nat.le_of_lt hB) n1 (hX.keep (fun j hj hlt=>⟨n2 j hlt (hV j hj).1 (hV j hj).2.1,(hV j hj).2.2⟩) n3)
theorem nwA {o:Obj} (HN:NW g w4 w5) (hn:w5.heap[gs]?=some o) (hB:B < gs):((((((w5.setCell ⟨B,0,none⟩ a0).setCell ⟨B,1,none⟩ a1).setCell ⟨B,2,none⟩ a2).setCell ⟨B,3,none⟩ a3).setCell ⟨B,4,none⟩ a4).setCell ⟨B,5,none⟩ a5).heap[gs]?=some o/\(∀ j,j < w4.heap.size->j≠g->j≠B->((((((w5.setCell ⟨B,0,none⟩ a0).setCell ⟨B,1,none⟩ a1).setCell ⟨B,2,none⟩ a2).setCell ⟨B,3,none⟩ a3).setCell ⟨B,4,none⟩ a4).setCell ⟨B,5,none⟩ a5).heap[j]?=w4.heap[j]?)/\w4.heap.size<=((((((w5.setCell ⟨B,0,none⟩ a0).setCell ⟨B,1,none⟩ a1).setCell ⟨B,2,none⟩ a2).setCell ⟨B,3,none⟩ a3).setCell ⟨B,4,none⟩ a4).setCell ⟨B,5,none⟩ a5).heap.size:=
 ⟨(vQO _ _ _ (by omega) _ _ _ _ _ _).trans hn,fun j hj hg hb=>(vQO _ _ _ hb _ _ _ _ _ _).trans (HN.old j hj hg),by rw [zQ1];exact HN.sz⟩
theorem nwB {o:Obj} (HN:NW g w4 w5):(((((((w5.setCell ⟨B,0,none⟩ a0).setCell ⟨B,1,none⟩ a1).setCell ⟨B,2,none⟩ a2).setCell ⟨B,3,none⟩ a3).setCell ⟨B,4,none⟩ a4).setCell ⟨B,5,none⟩ a5).alloc o).heap[w5.heap.size]?=some o/\(∀ j,j < w4.heap.size->j≠g->j≠B->(((((((w5.setCell ⟨B,0,none⟩ a0).setCell ⟨B,1,none⟩ a1).setCell ⟨B,2,none⟩ a2).setCell ⟨B,3,none⟩ a3).setCell ⟨B,4,none⟩ a4).setCell ⟨B,5,none⟩ a5).alloc o).heap[j]?=w4.heap[j]?)/\w4.heap.size<=(((((((w5.setCell ⟨B,0,none⟩ a0).setCell ⟨B,1,none⟩ a1).setCell ⟨B,2,none⟩ a2).setCell ⟨B,3,none⟩ a3).setCell ⟨B,4,none⟩ a4).setCell ⟨B,5,none⟩ a5).alloc o).heap.size:=
 ⟨zJU (zQ1 _ _ _ _ _ _ _ _),fun j hj hg hb=>(Below.heap_alloc _ _ _ (by rw [zQ1];exact Nat.lt_of_lt_of_le hj HN.sz)).trans ((vQO _ _ _ hb _ _ _ _ _ _).trans (HN.old j hj hg)),by rw [World.alloc_size,zQ1];exact Nat.le_succ_of_le HN.sz⟩
theorem finA (HN:NW g w4 w5) (hn:w5.heap[gs]?=some (.cells #[.string r0,.string r1,.bool r2,.int .i64 r3,.string r4,.slice r5 r7.length r6] T (0,0))) (hB:B < gs) (hV:∀ j,V<=j->j≠g/\j≠B/\B<=j) (ho:op.size<=1500000) (hX:POwn w4 (fun b=>V<=b) (.mk r0 r1 r2 r3 r4 r5 r6 r7)) :
  POwn ((((((w5.setCell ⟨B,0,none⟩ a0).setCell ⟨B,1,none⟩ a1).setCell ⟨B,2,none⟩ a2).setCell ⟨B,3,none⟩ a3).setCell ⟨B,4,none⟩ a4).setCell ⟨B,5,none⟩ a5) (fun b=>B<=b) (.mk op ⟨#[]⟩ false 0 ⟨#[]⟩ (some ⟨gs,0,none⟩) 1 [.mk r0 r1 r2 r3 r4 r5 r6 r7]):=
 vJM (nwA HN hn hB).1 (nwA HN hn hB).2.1 (nwA HN hn hB).2.2 hB hV ho hX
theorem finB (HN:NW g w4 w5) (hB:B < w5.heap.size) (hV:∀ j,V<=j->j≠g/\j≠B/\B<=j) (ho:op.size<=1500000) (hX:POwn w4 (fun b=>V<=b) (.mk r0 r1 r2 r3 r4 r5 r6 r7)) :
  POwn (((((((w5.setCell ⟨B,0,none⟩ a0).setCell ⟨B,1,none⟩ a1).setCell ⟨B,2,none⟩ a2).setCell ⟨B,3,none⟩ a3).setCell ⟨B,4,none⟩ a4).setCell ⟨B,5,none⟩ a5).alloc (.cells #[.string r0,.string r1,.bool r2,.int .i64 r3,.string r4,.slice r5 r7.length r6] T)) (fun b=>B<=b) (.mk op ⟨#[]⟩ false 0 ⟨#[]⟩ (some ⟨w5.heap.size,0,none⟩) 1 [.mk r0 r1 r2 r3 r4 r5 r6 r7]):=
 vJM (nwB HN).1 (nwB HN).2.1 (nwB HN).2.2 hB hV ho hX
end
section
variable {g B V V2 gs:Nat} {w4 w5:World} {a0 a1 a2 a3 a4 a5:Value} {T:TypeId} {op r0 r1:ByteArray} {r2:Bool} {r3:Int} {r4:ByteArray} {r5:Option Addr} {r6:Nat} {r7:List PB} {s0 s1:ByteArray} {s2:Bool} {s3:Int} {s4:ByteArray} {s5:Option Addr} {s6:Nat} {s7:List PB}
theorem zJa {F:World} (n1:F.heap[gs]?=some (.cells #[.string r0,.string r1,.bool r2,.int .i64 r3,.string r4,.slice r5 r7.length r6,.string s0,.string s1,.bool s2,.int .i64 s3,.string s4,.slice s5 s7.length s6] T (0,0))) (n2:∀ j,j < w4.heap.size->j≠g->j≠B->F.heap[j]?=w4.heap[j]?) (n3:w4.heap.size<=F.heap.size) (hB:B < gs) (hg:g < B) (ho:op.size<=1500000) (hX:POwn w4 (fun b=>B < b) (.mk r0 r1 r2 r3 r4 r5 r6 r7)) (hY:POwn w4 (fun b=>B < b) (.mk s0 s1 s2 s3 s4 s5 s6 s7)) :
  POwn F (fun b=>B<=b) (.mk op ⟨#[]⟩ false 0 ⟨#[]⟩ (some ⟨gs,0,none⟩) 2 [.mk r0 r1 r2 r3 r4 r5 r6 r7,.mk s0 s1 s2 s3 s4 s5 s6 s7]):=
 POwn.two ho (Nat.le_of_lt hB) n1 (hX.keep (fun j hj hlt=>⟨n2 j hlt (by omega) (by omega),Nat.le_of_lt hj⟩) n3) (hY.keep (fun j hj hlt=>⟨n2 j hlt (by omega) (by omega),Nat.le_of_lt hj⟩) n3)
theorem finA2 (HN:NW g w4 w5) (hn:w5.heap[gs]?=some (.cells #[.string r0,.string r1,.bool r2,.int .i64 r3,.string r4,.slice r5 r7.length r6,.string s0,.string s1,.bool s2,.int .i64 s3,.string s4,.slice s5 s7.length s6] T (0,0))) (hB:B < gs) (hg:g < B) (ho:op.size<=1500000) (hX:POwn w4 (fun b=>B < b) (.mk r0 r1 r2 r3 r4 r5 r6 r7)) (hY:POwn w4 (fun b=>B < b) (.mk s0 s1 s2 s3 s4 s5 s6 s7)) :
  POwn ((((((w5.setCell ⟨B,0,none⟩ a0).setCell ⟨B,1,none⟩ a1).setCell ⟨B,2,none⟩ a2).setCell ⟨B,3,none⟩ a3).setCell ⟨B,4,none⟩ a4).setCell ⟨B,5,none⟩ a5) (fun b=>B<=b) (.mk op ⟨#[]⟩ false 0 ⟨#[]⟩ (some ⟨gs,0,none⟩) 2 [.mk r0 r1 r2 r3 r4 r5 r6 r7,.mk s0 s1 s2 s3 s4 s5 s6 s7]):=
 zJa (nwA HN hn hB).1 (nwA HN hn hB).2.1 (nwA HN hn hB).2.2 hB hg ho hX hY
theorem finB2 (HN:NW g w4 w5) (hB:B < w5.heap.size) (hg:g < B) (ho:op.size<=1500000) (hX:POwn w4 (fun b=>B < b) (.mk r0 r1 r2 r3 r4 r5 r6 r7)) (hY:POwn w4 (fun b=>B < b) (.mk s0 s1 s2 s3 s4 s5 s6 s7)) :
  POwn (((((((w5.setCell ⟨B,0,none⟩ a0).setCell ⟨B,1,none⟩ a1).setCell ⟨B,2,none⟩ a2).setCell ⟨B,3,none⟩ a3).setCell ⟨B,4,none⟩ a4).setCell ⟨B,5,none⟩ a5).alloc (.cells #[.string r0,.string r1,.bool r2,.int .i64 r3,.string r4,.slice r5 r7.length r6,.string s0,.string s1,.bool s2,.int .i64 s3,.string s4,.slice s5 s7.length s6] T)) (fun b=>B<=b) (.mk op ⟨#[]⟩ false 0 ⟨#[]⟩ (some ⟨w5.heap.size,0,none⟩) 2 [.mk r0 r1 r2 r3 r4 r5 r6 r7,.mk s0 s1 s2 s3 s4 s5 s6 s7]):=
 zJa (nwB HN).1 (nwB HN).2.1 (nwB HN).2.2 hB hg ho hX hY
end
structure KT (g k A:Nat) (t:ByteArray) (w v:World) (r0 r1:ByteArray) (r2:Bool) (r3:Int) (r4:ByteArray) (r5:Option Addr) (r6:Nat) (r7:List PB):Prop where
 r:RB g t k w v
 b:BX v A r0 r1 r2 r3 r4 (.slice r5 r7.length r6)
 o:POwn v (fun b=>w.heap.size < b) (PB.mk r0 r1 r2 r3 r4 r5 r6 r7)
 a:w.heap.size < A
section
variable {g k k' A:Nat} {t t':ByteArray} {w v v':World} {r0 r1:ByteArray} {r2:Bool} {r3:Int} {r4:ByteArray} {r5:Option Addr} {r6:Nat} {r7:List PB}
theorem KT.step (h:KT g k A t w v r0 r1 r2 r3 r4 r5 r6 r7) (hz:g < w.heap.size) (hp:ParP g t' k' 292 v v'):KT g k' A t' w v' r0 r1 r2 r3 r4 r5 r6 r7:=
 ⟨h.r.step hz hp,(hp.block A (Array.getElem?_eq_some_iff.1 h.b).1 (by have:=h.a;omega)).trans h.b,h.o.keep (fun j hj hlt=>⟨hp.block j hlt (by omega),hj⟩) hp.size,h.a⟩
theorem KT.grow (h:KT g k A t w v r0 r1 r2 r3 r4 r5 r6 r7) (hb:Below v.heap.size v v'):KT g k A t w v' r0 r1 r2 r3 r4 r5 r6 r7:=
 ⟨h.r.grow hb,h.b.grow hb,h.o.grow hb (fun _ h=>h),h.a⟩
theorem KT.new (h:RB g t k w v) (o:POwn v (fun b=>w.heap.size < b) (PB.mk r0 r1 r2 r3 r4 r5 r6 r7)):KT g k v.heap.size t w (v.alloc (.cells #[.string r0,.string r1,.bool r2,.int .i64 r3,.string r4,.slice r5 r7.length r6] 123)) r0 r1 r2 r3 r4 r5 r6 r7:=
 ⟨h.grow (Qj _ (.refl _ _)),BX.new v r0 r1 r2 r3 r4 _,o.grow (Qj _ (.refl _ _)) (fun _ h=>h),h.x.hz⟩
end
theorem jYO {g k k' A C:Nat} {t t':ByteArray} {w X w5:World} {r0 r1:ByteArray} {r2:Bool} {r3:Int} {r4:ByteArray} {r5:Option Addr} {r6:Nat} {r7:List PB} {op s:ByteArray} {num:Bool} {n:Int} {vs:ByteArray} {u:Value} (HK:KT g k A t w X r0 r1 r2 r3 r4 r5 r6 r7) (hz:g < w.heap.size) (HC:BX X C op s num n vs u) (hg:g≠C) (hp:ParP g t' k' 292 X.drew w5):RB g t' k' w w5/\BX w5 A r0 r1 r2 r3 r4 (.slice r5 r7.length r6)/\BX w5 C op s num n vs u/\NW g X w5:=by
 have hp:ParP g t' k' 292 X w5:=⟨hp.os,hp.tape,hp.output,hp.size,hp.block,hp.at'⟩;have h:=HK.step hz hp;exact ⟨h.r,h.b,(hp.block C (Array.getElem?_eq_some_iff.1 HC).1 (Ne.symm hg)).trans HC,NW.one (fun _ _=>rfl) (Nat.le_refl _) hp⟩
theorem aft2B {g k k' A C:Nat} {t t':ByteArray} {w X w5:World} {o:Obj} {r0 r1:ByteArray} {r2:Bool} {r3:Int} {r4:ByteArray} {r5:Option Addr} {r6:Nat} {r7:List PB} {op s:ByteArray} {num:Bool} {n:Int} {vs:ByteArray} {u:Value} (HK:KT g k A t w X r0 r1 r2 r3 r4 r5 r6 r7) (hz:g < w.heap.size) (HC:BX X C op s num n vs u) (hg:g≠C) (hp:ParP g t' k' 292 (X.alloc o).drew w5):RB g t' k' w w5/\BX w5 A r0 r1 r2 r3 r4 (.slice r5 r7.length r6)/\BX w5 C op s num n vs u/\NW g X w5/\X.heap.size < w5.heap.size/\w5.heap[X.heap.size]?=some o:=by
 have hb:=Qj o (Below.refl X.heap.size X);obtain ⟨h1,h2,h3,h4⟩:=jYO (HK.grow hb) hz (HC.grow hb) hg hp;have hs:(X.alloc o).heap.size=X.heap.size+1:=by simp
 have hz5:(X.alloc o).heap.size<=w5.heap.size:=hp.size;refine ⟨h1,h2,h3,⟨fun j hj hjg=>(h4.old j (by omega) hjg).trans (Below.heap_alloc _ _ _ hj),by omega⟩,by omega,?_⟩;refine (h4.old X.heap.size (by omega) (by have:=HK.r.p.at'.cells.2.2.2.2;omega)).trans ?_;show (X.heap.push _)[X.heap.size]?=_;simp
theorem jJH (t:ByteArray):(Lib.hasPrefix t.data.toList [41]=true->jQK t ⟨#[41]⟩=(⟨(t.data.toList.drop 1).toArray⟩,true))/\(¬ Lib.hasPrefix t.data.toList [41]=true->jQK t ⟨#[41]⟩=(t,false)):=by
 refine ⟨fun h=>?_,fun h=>jQF h⟩;obtain ⟨r,hr⟩:=Jg.1 h;rw [jQ9 (w:=⟨#[41]⟩) hr,hr];rfl
theorem jYw (s:ByteArray) (hs:s.size<=1500000) (wd rs:ByteArray) (hw:jQ0 s.data.toList=(wd.data.toList,rs.data.toList)) (W:World) (hM:MaxW W) :
  Calls Tryz.prog 206 #[.string s,.string ⟨#[32]⟩] W fun e w'=>(∃ b,e=.returned (.tuple #[.string wd,.string rs,.bool b]))/\Below W.heap.size W w':=by
 refine (vJx s 32 (by omega) W hM).mono ?_;rintro e w' ⟨he,hb⟩;refine ⟨?_,hb⟩;unfold jQ0 at hw
 rcases hc:cutC 32 s.data.toList with _ | ⟨a,r⟩
 · rw [hc] at he hw;have h1:s=wd:=Xk (congrArg Prod.fst hw);have h2:(⟨#[]⟩:ByteArray)=rs:=Xk (congrArg Prod.snd hw);rw [<- h1,<- h2];exact ⟨_,he⟩
 · rw [hc] at he hw;have h1:(⟨a.toArray⟩:ByteArray)=wd:=Xk (by simpa using congrArg Prod.fst hw);have h2:(⟨r.toArray⟩:ByteArray)=rs:=Xk (by simpa using congrArg Prod.snd hw);rw [<- h1,<- h2];exact ⟨_,he⟩
theorem xJz (r:Nat) (hr:r<=8) (g m:Nat) (hm:m<=40) (s:ByteArray) (hs:s.size<=1500000) (hmx:0≠g)
  (HP:∀ (s':ByteArray) (m':Nat),s'.size<=1500000->m'<=40->∀ W,MaxW W->Yg W g s' m' 292->Calls Tryz.prog 220 #[.pointer (some ⟨g,0,none⟩),.int .i64 (r:Int)] W fun e W'=>kQg g W (parN r m' s'.data.toList) e W')
  (w:World) (hM:MaxW w) (h:Yg w g s m 292) :
  Calls Tryz.prog 233 #[.pointer (some ⟨g,0,none⟩),.int .i64 (r:Int)] w fun e w'=>kQg g w (qQz (parN r) m s.data.toList) e w':=by
 have H:=Zh h;have HM:=Zh hM;obtain ⟨c0,c1,f0,f1,hz⟩:=h.cells;obtain ⟨R,hR⟩:∃ R,qQz (parN r) m s.data.toList=R:=⟨_,rfl⟩;have HRR:=Zh hR;rw [hR];have hwl:=xJI s.data.toList;rw [Qx] at hwl;obtain ⟨wd,rs,hw⟩:∃ wd rs:ByteArray,jQ0 s.data.toList=(wd.data.toList,rs.data.toList):=⟨⟨(jQ0 s.data.toList).1.toArray⟩,⟨(jQ0 s.data.toList).2.toArray⟩,by simp⟩;rw [hw] at hwl;simp only [Qx] at hwl;obtain ⟨hwd,hrs⟩:=hwl;have hwd:=Nat.le_trans hwd hs;have hrs:=Nat.le_trans hrs hs;have HC:=Zh (jYw s hs wd rs hw);have HF:=Zh (fun W hM=>Xp wd (by omega) W hM);have HE:=Zh (fun (W:World)=>Tryz.strings_HasPrefix rs ⟨#[61,32]⟩ W);have HL:=Zh (fun (W:World)=>Tryz.strings_HasPrefix rs ⟨#[60,32]⟩ W);have HPP:=Zh HP;unfold qQz at hR;rw [hw] at hR;simp only at hR;have HX:=Zh hR;have HB0:=Zh (Qj (.cells #[.string ⟨#[]⟩,.string ⟨#[]⟩,.bool false,.int .i64 0,.string ⟨#[]⟩,.slice none 0 0] 123) (.refl w.heap.size w));obtain ⟨fb,hfb⟩:∃ b,Q5 wd.data.toList=b:=⟨_,rfl⟩;obtain ⟨eb,heb⟩:∃ b,Lib.hasPrefix rs.data.toList [61,32]=b:=⟨_,rfl⟩;obtain ⟨lb,hlb⟩:∃ b,Lib.hasPrefix rs.data.toList [60,32]=b:=⟨_,rfl⟩;rw [hfb] at HF;rw [show (⟨#[61,32]⟩:ByteArray).data.toList=[61,32] from rfl,heb] at HE;rw [show (⟨#[60,32]⟩:ByteArray).data.toList=[60,32] from rfl,hlb] at HL;rw [hfb,heb,hlb] at HX;have HPR:=Zh (And.intro heb hlb);clear h hM hR hw HP HRR hfb heb hlb;go_enter Tryz.func233,Tryz.ntmps233;go_wp2_with fail;refine (HC.out _ (HM.out.grow HB0.out)).mono ?_;rintro e w1 ⟨⟨b,rfl⟩,hb1⟩;have HR1:=Zh ((RB.start H.out).grow hb1);have HB1:=Zh (Qk hb1 HB0.out);clear hb1 HB0 HC;go_wp2_with fail;refine (HF.out w1 (HM.out.grow HB1.out)).mono ?_;rintro e w2 ⟨rfl,hb2⟩;have HR2:=Zh (HR1.out.grow hb2);have HM2:=Zh (HM.out.grow (Qk hb2 HB1.out));clear hb2 HB1 HR1 HF H c0 c1 f0 f1;obtain ⟨⟨d0,d1,e0,e1,dz⟩,⟨qx0,qx1,qx2,qx3,qx4,qx5⟩,⟨qz0,qz1,qz2,qz3,qz4,qz5⟩,qzz⟩:=HR2.out.facts
 go_upto_if 25 with fail
 go_cut [] from 5 to 66 (fun wx=>Hid (RB g s m w wx)/\Hid (MaxW wx)/\Hid (twoN (parN r) m s.data.toList=R))
 case first=>
  cases fb with
  | false=>
   rw [if_neg (by decide)] at HX;go_wp2_with fail;go_meet;exact ⟨HR2,HM2,HX⟩
  | true=>
   rw [if_pos rfl] at HX;go_wp2_with fail;refine (HE.out w2).mono ?_;rintro e w3 ⟨rfl,hw3⟩;rw [hw3];clear hw3 HE;cases eb with
   | true=>
    rw [if_pos rfl] at HX;obtain ⟨t2,ht2⟩:=Jg.1 HPR.out.1
    have x2:(2:Int)<=rs.size:=by
     have:=congrArg List.length ht2;rw [Qx,List.length_append] at this;simp at this;omega
    clear ht2;have hxs:(rs.extract 2 rs.size).size<=1500000:=by simp;omega
    have HCP:=Zh (fun (W:World) (h:Yg W g s m 292)=>jYG g m s wd (rs.extract 2 rs.size) .eq hwd hxs W h);rw [jJl,HX.out,show (Opk.eq).text=⟨#[101,113]⟩ from rfl] at HCP;clear hxs;go_wp2_with fail;refine (HCP.out w2 HR2.out.p.at').mono ?_;rintro e w4 ⟨y,t,k,rfl,hp4,hy⟩;have hw4:w.heap.size < w2.heap.size:=HR2.out.x.hz;have HR4:=Zh (HR2.out.step hz hp4);have HYY:=Zh hy;clear hp4 HR2 hy HCP d0 d1 e0 e1 qx0 qx1 qx2 qx3 qx4 qx5 qz0 qz1 qz2 qz3 qz4 qz5 qzz;obtain ⟨_,⟨qx0,qx1,qx2,qx3,qx4,qx5⟩,⟨qz0,qz1,qz2,qz3,qz4,qz5⟩,qzz⟩:=HR4.out.facts;obtain ⟨b,hb⟩:∃ b,R.isSome=b:=⟨_,rfl⟩;have HBB:=Zh hb;rw [hb];clear hb;obtain ⟨o0,o1,o2,o3,o4,o5,o6,o7⟩:=y;unfold PB.agg;simp only [PB.op,PB.s,PB.num,PB.n,PB.vs,PB.a,PB.c,PB.l];go_wp2_with fail;refine bodyPost_ret (v:=.tuple #[(PB.mk o0 o1 o2 o3 o4 o5 o6 o7).agg,.bool b]) (by simp [results,Tryz.results233,go_sem,PB.agg,PB.op,PB.s,PB.num,PB.n,PB.vs,PB.a,PB.c,PB.l, *]) rfl ⟨PB.mk o0 o1 o2 o3 o4 o5 o6 o7,t,k,by rw [HBB.out],?_,fun p u k e=>?_⟩
    · (repeat (first | with_reducible exact HR4.out.p | with_reducible apply ParP.drew | with_reducible refine ParP.setB ?_ (Nat.le_refl _) (by omega) _))
    ·
     obtain ⟨q1,q2,q3,q4⟩:=HYY.out p u k e;refine ⟨q1,q2.keep (fun j hj _=>?_) (by simp),q3,q4⟩;have hne:j≠w.heap.size:=by omega
     refine ⟨?_,by omega⟩
     repeat rw [Below.heap_setCell _ _ _ _ hne]
   | false=>
    rw [if_neg (by decide)] at HX;go_wp2_with fail;refine (HL.out w2).mono ?_;rintro e w3 ⟨rfl,hw3⟩;rw [hw3];clear hw3 HL;cases lb with
    | true=>
     rw [if_pos rfl] at HX;obtain ⟨t2,ht2⟩:=Jg.1 HPR.out.2
     have x2:(2:Int)<=rs.size:=by
      have:=congrArg List.length ht2;rw [Qx,List.length_append] at this;simp at this;omega
     clear ht2;have hxs:(rs.extract 2 rs.size).size<=1500000:=by simp;omega
     have HCP:=Zh (fun (W:World) (h:Yg W g s m 292)=>jYG g m s wd (rs.extract 2 rs.size) .lt hwd hxs W h);rw [jJl,HX.out,show (Opk.lt).text=⟨#[108,116]⟩ from rfl] at HCP;clear hxs;go_wp2_with fail;refine (HCP.out w2 HR2.out.p.at').mono ?_;rintro e w4 ⟨y,t,k,rfl,hp4,hy⟩;have hw4:w.heap.size < w2.heap.size:=HR2.out.x.hz;have HR4:=Zh (HR2.out.step hz hp4);have HYY:=Zh hy;clear hp4 HR2 hy HCP d0 d1 e0 e1 qx0 qx1 qx2 qx3 qx4 qx5 qz0 qz1 qz2 qz3 qz4 qz5 qzz;obtain ⟨_,⟨qx0,qx1,qx2,qx3,qx4,qx5⟩,⟨qz0,qz1,qz2,qz3,qz4,qz5⟩,qzz⟩:=HR4.out.facts;obtain ⟨b,hb⟩:∃ b,R.isSome=b:=⟨_,rfl⟩;have HBB:=Zh hb;rw [hb];clear hb;obtain ⟨o0,o1,o2,o3,o4,o5,o6,o7⟩:=y;unfold PB.agg;simp only [PB.op,PB.s,PB.num,PB.n,PB.vs,PB.a,PB.c,PB.l];go_wp2_with fail;refine bodyPost_ret (v:=.tuple #[(PB.mk o0 o1 o2 o3 o4 o5 o6 o7).agg,.bool b]) (by simp [results,Tryz.results233,go_sem,PB.agg,PB.op,PB.s,PB.num,PB.n,PB.vs,PB.a,PB.c,PB.l, *]) rfl ⟨PB.mk o0 o1 o2 o3 o4 o5 o6 o7,t,k,by rw [HBB.out],?_,fun p u k e=>?_⟩
     · (repeat (first | with_reducible exact HR4.out.p | with_reducible apply ParP.drew | with_reducible refine ParP.setB ?_ (Nat.le_refl _) (by omega) _))
     ·
      obtain ⟨q1,q2,q3,q4⟩:=HYY.out p u k e;refine ⟨q1,q2.keep (fun j hj _=>?_) (by simp),q3,q4⟩;have hne:j≠w.heap.size:=by omega
      refine ⟨?_,by omega⟩
      repeat rw [Below.heap_setCell _ _ _ _ hne]
    | false=>
     rw [if_neg (by decide)] at HX
     by_cases hn:wd=⟨#[110,111,116]⟩
     ·
      subst hn;rw [if_pos rfl] at HX;go_upto_region 9 with fail
      refine Qg (fun v=>Hid (RB g rs m w v)) (HR2.out.set0 hz rs) ?_;clear HR2 HM2 d0 d1 e0 e1 qx0 qx1 qx2 qx3 qx4 qx5 qz0 qz1 qz2 qz3 qz4 qz5 qzz;rintro V HV;have HCP:=Zh (HPP.out rs m hrs hm V (kQh HV.out.p HM.out hmx) HV.out.p.at');obtain ⟨R1,hR1⟩:∃ R1,parN r m rs.data.toList=R1:=⟨_,rfl⟩;have HXR:=Zh HX.out;unfold notN at HXR;rw [hR1] at HCP HXR;have HX1:=Zh hR1;have hwV:w.heap.size < V.heap.size:=HV.out.x.hz;clear hR1 HX HPR HPP;go_wp2_with fail;refine HCP.out.mono ?_;rintro e w4 ⟨y,t,k,rfl,hp4,hy⟩;have HR4:=Zh (HV.out.step hz hp4);have HYY:=Zh hy;have hwz:=hp4.size;clear hp4 HV hy HCP;obtain ⟨y0,y1,y2,y3,y4,y5,y6,y7⟩:=y;unfold PB.agg;simp only [PB.op,PB.s,PB.num,PB.n,PB.vs,PB.a,PB.c,PB.l];go_upto_region 10 with fail
      refine Qg (fun v=>Hid (RB g t k w v)/\Hid (BX v w4.heap.size y0 y1 y2 y3 y4 (.slice y5 y7.length y6))/\Hid (∀ j,j < w4.heap.size->v.heap[j]?=w4.heap[j]?)) ⟨HR4.out.grow (Qj _ (.refl _ _)),BX.new w4 y0 y1 y2 y3 y4 (.slice y5 y7.length y6),fun j hj=>(Qj (.cells #[.string y0,.string y1,.bool y2,.int .i64 y3,.string y4,.slice y5 y7.length y6] 123) (.refl w4.heap.size w4)).block j hj⟩ ?_;rintro X ⟨HRX,HBX,HOX⟩
      have HG4:Hid (w4.heap.size≠g/\w.heap.size < w4.heap.size):=by
       have h1:=HR4.out.x.hz;exact Zh ⟨by omega,h1⟩
      clear HR4;obtain ⟨G,hG⟩:∃ G,w4.heap.size=G:=⟨_,rfl⟩;rw [hG] at HBX HG4;rw [hG];obtain ⟨v0,v1,v2,v3,v4,v5,v6⟩:=HBX.out.box;have hgz:g≠G:=fun e=>HG4.out.1 e.symm
      obtain ⟨⟨d0,d1,e0,e1,dz⟩,⟨qx0,qx1,qx2,qx3,qx4,qx5⟩,⟨qz0,qz1,qz2,qz3,qz4,qz5⟩,qzz⟩:=HRX.out.facts;cases R1 with
      | none=>
       have HN:Hid (R=none):=by
        show _=_;rw [<- HXR.out]
       rw [show (none:Rd).isSome=false from rfl]
       go_region
       all_goals
        go_wp2_with fail;refine bodyPost_ret (v:=.tuple #[(PB.mk ⟨#[110,111,116]⟩ ⟨#[]⟩ false 0 ⟨#[]⟩ (some ⟨X.heap.size,0,none⟩) 1 [PB.mk y0 y1 y2 y3 y4 y5 y6 y7]).agg,.bool false]) (by simp [results,Tryz.results233,go_sem,PB.agg,PB.op,PB.s,PB.num,PB.n,PB.vs,PB.a,PB.c,PB.l, *]) rfl ⟨PB.mk ⟨#[110,111,116]⟩ ⟨#[]⟩ false 0 ⟨#[]⟩ (some ⟨X.heap.size,0,none⟩) 1 [PB.mk y0 y1 y2 y3 y4 y5 y6 y7],t,k,?_,?_,fun p' u' k' e=>?_⟩
        · rw [HN.out];rfl
        · (repeat (first | with_reducible exact HRX.out.p | with_reducible apply ParP.drew | with_reducible apply jQx | with_reducible refine ParP.setB ?_ (Nat.le_refl _) (by omega) _))
        · rw [HN.out] at e;cases e
      | some x=>
       obtain ⟨p,u,k1⟩:=x;rw [show (some (p,u,k1):Rd).isSome=true from rfl];obtain ⟨hpr,hown,htu,rfl⟩:=HYY.out p u k1 rfl;have HPRR:=Zh hpr;have HOWN:=Zh hown;have HXN:Hid (qQK k (Kx .not [p] u)=R):=HXR.out;rw [jJY] at HXN;obtain ⟨cb,hcb⟩:∃ cb,Lib.hasPrefix u [41]=cb:=⟨_,rfl⟩;obtain ⟨t',ht'⟩:∃ t',(jQK t ⟨#[41]⟩).1=t':=⟨_,rfl⟩;have HSK:=Zh (fun W (h:Yg W g t k 292)=>kQc g k t ⟨#[41]⟩ W h);rw [show (jQK t ⟨#[41]⟩).2=cb by rw [<- hcb,<- htu];rfl,ht'] at HSK
       have HT:Hid (R.isSome=cb/\∀ p' u' k',R=some (p',u',k')->jQ6 .not [p]=p'/\t'.data.toList=u'/\k=k'):=by
        show _/\_;rw [<- HXN.out,hcb];cases cb with
        | false=>exact ⟨rfl,fun _ _ _ e=>by cases e⟩
        | true=>
         refine ⟨rfl,fun p' u' k' e=>?_⟩;cases e;refine ⟨rfl,?_,rfl⟩;rw [<- ht',(jJH t).1 (by rw [htu];exact hcb),htu]
       clear hpr hown HXN hcb ht' htu HXR HYY HX1
       have HNG:Hid ((PB.mk ⟨#[110,111,116]⟩ ⟨#[]⟩ false 0 ⟨#[]⟩ none 1 [PB.mk y0 y1 y2 y3 y4 y5 y6 y7]).pr=jQ6 .not [p]):=by
        show _=_;rw [<- HPRR.out];rfl
       have hwX:w4.heap.size<=X.heap.size:=Nat.le_of_lt (by rw [hG];exact v6);have KA:=Zh (fun W5 (hp:ParP g t' k 292 X.drew W5)=>aftA HRX.out hz HBX.out hgz HOX.out hwX hp);have KB:=Zh (fun W5 (hp:ParP g t' k 292 (X.alloc (.cells #[.string y0,.string y1,.bool y2,.int .i64 y3,.string y4,.slice y5 y7.length y6] 123)).drew W5)=>aftB HRX.out hz HBX.out hgz HOX.out hwX hp);have PAA:=Zh (show Yg X.drew g t k 292 from HRX.out.p.at');have PBB:=Zh (show Yg (X.alloc (.cells #[.string y0,.string y1,.bool y2,.int .i64 y3,.string y4,.slice y5 y7.length y6] 123)).drew g t k 292 from (HRX.out.p.grow (Qj _ (.refl _ _))).at')
       go_region_with (go_at_call 231;(first | refine (HSK.out _ PAA.out).mono ?_;rintro x w5 ⟨rfl,hp5⟩;obtain ⟨HR5,HB5,HN5⟩:=KA.out w5 hp5 | refine (HSK.out _ PBB.out).mono ?_;rintro x w5 ⟨rfl,hp5⟩;obtain ⟨HR5,HB5,HN5,HO5⟩:=KB.out w5 hp5);clear hp5;obtain ⟨_,⟨px0,px1,px2,px3,px4,px5⟩,⟨pz0,pz1,pz2,pz3,pz4,pz5⟩,pzz⟩:=HR5.facts;obtain ⟨pv0,pv1,pv2,pv3,pv4,pv5,pv6⟩:=HB5.box;have HR5:=Zh HR5;have HB5:=Zh HB5;have HN5:=Zh HN5;(first | have HO5:=Zh HO5 | skip))
       all_goals
        go_wp2_with fail
        first
         | (refine bodyPost_ret (v:=.tuple #[(PB.mk ⟨#[110,111,116]⟩ ⟨#[]⟩ false 0 ⟨#[]⟩ (some ⟨X.heap.size,0,none⟩) 1 [PB.mk y0 y1 y2 y3 y4 y5 y6 y7]).agg,.bool cb]) ?hv rfl ⟨PB.mk ⟨#[110,111,116]⟩ ⟨#[]⟩ false 0 ⟨#[]⟩ (some ⟨X.heap.size,0,none⟩) 1 [PB.mk y0 y1 y2 y3 y4 y5 y6 y7],t',k,?_,?_,fun p' u' k' e=>?_⟩;case hv=>simp [results,Tryz.results233,go_sem,PB.agg,PB.op,PB.s,PB.num,PB.n,PB.vs,PB.a,PB.c,PB.l, *])
         | (refine bodyPost_ret (v:=.tuple #[(PB.mk ⟨#[110,111,116]⟩ ⟨#[]⟩ false 0 ⟨#[]⟩ (some ⟨w5.heap.size,0,none⟩) 1 [PB.mk y0 y1 y2 y3 y4 y5 y6 y7]).agg,.bool cb]) ?hv rfl ⟨PB.mk ⟨#[110,111,116]⟩ ⟨#[]⟩ false 0 ⟨#[]⟩ (some ⟨w5.heap.size,0,none⟩) 1 [PB.mk y0 y1 y2 y3 y4 y5 y6 y7],t',k,?_,?_,fun p' u' k' e=>?_⟩;case hv=>simp [results,Tryz.results233,go_sem,PB.agg,PB.op,PB.s,PB.num,PB.n,PB.vs,PB.a,PB.c,PB.l, *])
        · exact congrArg (fun b=>Ending.returned (.tuple #[_,.bool b])) HT.out.1.symm
        · (repeat (first | with_reducible exact HR5.out.p | with_reducible apply ParP.drew | with_reducible apply jQx | with_reducible refine ParP.setB ?_ (Nat.le_refl _) (by omega) _))
        ·
         obtain ⟨q1,q2,q3⟩:=HT.out.2 p' u' k' e;refine ⟨HNG.out.trans q1,?_,q2,q3⟩;have hz4:=HN5.out.sz;have hwx:=hwX;have NE:=Zh (fun j (hj:V.heap.size<=j)=>(show j≠g/\j≠w.heap.size/\w.heap.size<=j by omega));have hwo:=HOWN.out;have hgs:w.heap.size < X.heap.size:=qzz
         first
          | with_reducible exact finA HN5.out HO5.out.2 hgs NE.out (by decide) hwo
          | with_reducible exact finB HN5.out pzz NE.out (by decide) hwo
     ·
      rw [if_neg (fun e=>hn (Xk e))] at HX;have hn2:¬ wd.toList=[110,111,116]:=fun e=>hn (Xk (by rw [<- Qp,e]))
      have hn5:(wd.toList==[110,111,116])=false:=by simpa using hn2
      clear hn;go_wp2_with fail;go_meet;exact ⟨HR2,HM2,HX⟩
 case rest=>
  obtain ⟨HRc,HMc,HXc⟩:=hcut;clear HX HR2 HM2 HPR HE HL d0 d1 e0 e1 qx0 qx1 qx2 qx3 qx4 qx5 qz0 qz1 qz2 qz3 qz4 qz5 qzz dz;have HXR:=Zh HXc.out;unfold twoN at HXR;obtain ⟨R1,hR1⟩:∃ R1,parN r m s.data.toList=R1:=⟨_,rfl⟩;have HCP:=Zh (HPP.out s m hs hm wc HMc.out HRc.out.p.at');rw [hR1] at HCP HXR;have HX1:=Zh hR1;have hwV:w.heap.size < wc.heap.size:=HRc.out.x.hz;clear hR1 HXc;go_wp2_with fail;refine HCP.out.mono ?_;rintro e w3 ⟨y,t,k,rfl,hp3,hy⟩;have HR3:=Zh (HRc.out.step hz hp3);have HYY:=Zh hy;have HM3:=Zh (kQh hp3 HMc.out hmx);clear hp3 HRc hy HCP HMc;obtain ⟨y0,y1,y2,y3,y4,y5,y6,y7⟩:=y;unfold PB.agg;simp only [PB.op,PB.s,PB.num,PB.n,PB.vs,PB.a,PB.c,PB.l];cases R1 with
  | none=>
   have HN:Hid (R=none):=by
    show _=_;rw [<- HXR.out]
   rw [show (none:Rd).isSome=false from rfl];go_upto_region 12 with fail
   refine Qg (fun v=>Hid (RB g t k w v)) (HR3.out.grow (Qj _ (.refl _ _))) ?_;clear HR3;rintro X HRX;obtain ⟨_,⟨qx0,qx1,qx2,qx3,qx4,qx5⟩,⟨qz0,qz1,qz2,qz3,qz4,qz5⟩,qzz⟩:=HRX.out.facts;go_wp2_with fail;refine bodyPost_ret (v:=.tuple #[(Jq ⟨#[]⟩ ⟨#[]⟩ ⟨false,0,[]⟩).agg,.bool false]) (by simp [results,Tryz.results233,go_sem,Jq,PB.agg,PB.op,PB.s,PB.num,PB.n,PB.vs,PB.a,PB.c,PB.l, *]) rfl ⟨_,t,k,by rw [HN.out];rfl,?_,by rw [HN.out];intro _ _ _ e;cases e⟩
   (repeat (first | with_reducible exact HRX.out.p | with_reducible apply ParP.drew | with_reducible apply jQx | with_reducible refine ParP.setB ?_ (Nat.le_refl _) (by omega) _))
  | some x=>
   obtain ⟨p,u,k1⟩:=x;rw [show (some (p,u,k1):Rd).isSome=true from rfl];obtain ⟨hpr,hown,htu,rfl⟩:=HYY.out p u k1 rfl;obtain ⟨hk40,hul⟩:=zJ7 HX1.out;have HPRR:=Zh hpr;go_upto_region 12 with fail
   refine Qg (fun v=>Hid (KT g k w3.heap.size t w v y0 y1 y2 y3 y4 y5 y6 y7)/\Hid (MaxW v)) ⟨KT.new HR3.out (hown.grow (.refl _ _) (fun b hb=>by omega)),HM3.out.grow (Qj _ (.refl _ _))⟩ ?_;rintro X ⟨HK,HMX⟩;obtain ⟨A,hA⟩:∃ A,w3.heap.size=A:=⟨_,rfl⟩;rw [hA] at HK;rw [hA]
   have htl:t.size<=1500000:=by
    rw [<- Qx t,htu];rw [Qx] at hul;omega
   subst htu;clear HR3 HYY hown hpr hul hA hwV HM3
   have HXJ:Hid ((match jQl t.data.toList with
    | none=>none
    | some (kk,tt)=>match parN r k tt with
     | none=>none
     | some (q,z,m2)=>qQK m2 (Kx kk [p,q] z))=R):=HXR.out
   clear HXR;unfold jQl at HXJ;obtain ⟨t1,ab,hs1⟩:∃ t1 ab,jQK t ⟨#[32,97,110,100,32]⟩=(t1,ab):=⟨_,_,rfl⟩;have HSK:=Zh (fun W (h:Yg W g t k 292)=>kQc g k t ⟨#[32,97,110,100,32]⟩ W h);rw [hs1] at HSK;have HS1:=Zh hs1;clear hs1;go_wp2_with fail;refine (HSK.out _ HK.out.r.p.at').mono ?_;rintro e w4 ⟨rfl,hp4⟩;have HK4:=Zh (HK.out.step hz hp4);have HM4:=Zh (kQh hp4 HMX.out hmx);clear hp4 HK HSK HMX
   go_upto_if 78 with fail
   go_cut [13] from 75 to 82 (fun v13 wx=>∃ kk t',v13=.string (Opk.text kk)/\ByteArray.size t'<=1500000/\Hid (KT g k A t' w wx y0 y1 y2 y3 y4 y5 y6 y7)/\Hid (MaxW wx)/\Hid ((match parN r k t'.data.toList with
     | none=>none
     | some (q,z,m2)=>qQK m2 (Kx kk [p,q] z))=R))
   case first=>
    by_cases ha:Lib.hasPrefix t.data.toList [32,97,110,100,32]=true
    ·
     rw [if_pos ha] at HXJ;obtain ⟨r1,e1⟩:=Jg.1 ha;have S1:=jQ9 (w:=⟨#[32,97,110,100,32]⟩) e1;rw [show t.data.toList.drop 5=r1 by rw [e1];rfl] at HXJ
     have hr1:r1.length<=1500000:=by
      have:=congrArg List.length e1;rw [Qx,List.length_append] at this;omega
     rw [HS1.out] at S1;cases S1;clear ha e1;go_wp2_with fail;go_meet;exact ⟨.and,⟨r1.toArray⟩,rfl,by show r1.toArray.size<=_;simpa using hr1,HK4,HM4,HXJ.out⟩
    ·
     rw [if_neg ha] at HXJ;have S1:=jQF (s:=t) (w:=⟨#[32,97,110,100,32]⟩) ha;rw [HS1.out] at S1;cases S1
     by_cases ho:Lib.hasPrefix t.data.toList [32,111,114,32]=true
     ·
      rw [if_pos ho] at HXJ;obtain ⟨r1,e1⟩:=Jg.1 ho;have S2:=jQ9 (w:=⟨#[32,111,114,32]⟩) e1;rw [show t.data.toList.drop 4=r1 by rw [e1];rfl] at HXJ
      have hr1:r1.length<=1500000:=by
       have:=congrArg List.length e1;rw [Qx,List.length_append] at this;omega
      clear ha ho e1;go_wp2_with fail;refine (kQA g k _ _ _ S2 _ HK4.out.r.p.at').mono ?_;rintro e w5 ⟨rfl,hp5⟩;have HK5:=Zh (HK4.out.step hz hp5);have HM5:=Zh (kQh hp5 HM4.out hmx);clear hp5 HK4 HM4;go_wp2_with fail;go_meet;exact ⟨.or,⟨r1.toArray⟩,rfl,by show r1.toArray.size<=_;simpa using hr1,HK5,HM5,HXJ.out⟩
     ·
      rw [if_neg ho] at HXJ;have S2:=jQF (s:=t) (w:=⟨#[32,111,114,32]⟩) ho;have HN:Hid (R=none):=HXJ.out.symm;clear ha ho;go_wp2_with fail;refine (jQH g k _ _ S2 _ HK4.out.r.p.at').mono ?_;rintro e w5 ⟨rfl,hp5⟩;have HRX:=Zh (HK4.out.step hz hp5).r;clear hp5 HK4;obtain ⟨_,⟨qx0,qx1,qx2,qx3,qx4,qx5⟩,⟨qz0,qz1,qz2,qz3,qz4,qz5⟩,qzz⟩:=HRX.out.facts;go_wp2_with fail;refine bodyPost_ret (v:=.tuple #[(Jq ⟨#[]⟩ ⟨#[]⟩ ⟨false,0,[]⟩).agg,.bool false]) (by simp [results,Tryz.results233,go_sem,Jq,PB.agg,PB.op,PB.s,PB.num,PB.n,PB.vs,PB.a,PB.c,PB.l, *]) rfl ⟨_,t,k,by rw [HN.out];rfl,?_,by rw [HN.out];intro _ _ _ e;cases e⟩
      (repeat (first | with_reducible exact HRX.out.p | with_reducible apply ParP.drew | with_reducible apply jQx | with_reducible refine ParP.setB ?_ (Nat.le_refl _) (by omega) _))
   case rest=>
    obtain ⟨kk,t',rfl,ht',HK,HMK,HXK⟩:=hcut;clear HXJ HK4 HM4 HS1 HX1 htl;obtain ⟨R2,hR2⟩:∃ R2,parN r k t'.data.toList=R2:=⟨_,rfl⟩;have HCP:=Zh (HPP.out t' k ht' hk40 wc HMK.out HK.out.r.p.at');rw [hR2] at HCP HXK;clear hR2;go_wp2_with fail;refine HCP.out.mono ?_;rintro e w6 ⟨x,t2,k2,rfl,hp6,hy⟩;have HK6:=Zh (HK.out.step hz hp6);have HYY:=Zh hy;have hwc:=HK.out.r.x.hz;clear hp6 HK hy HCP HMK;obtain ⟨x0,x1,x2,x3,x4,x5,x6,x7⟩:=x;unfold PB.agg;simp only [PB.op,PB.s,PB.num,PB.n,PB.vs,PB.a,PB.c,PB.l];go_upto_region 20 with fail
    refine Qg (fun v=>Hid (KT g k2 A t2 w v y0 y1 y2 y3 y4 y5 y6 y7)/\Hid (BX v w6.heap.size x0 x1 x2 x3 x4 (.slice x5 x7.length x6))/\Hid (∀ p u k',R2=some (p,u,k')->(PB.mk x0 x1 x2 x3 x4 x5 x6 x7).pr=p/\POwn v (fun b=>w.heap.size < b) (PB.mk x0 x1 x2 x3 x4 x5 x6 x7)/\t2.data.toList=u/\k2=k')) ⟨HK6.out.grow (Qj _ (.refl _ _)),BX.new w6 x0 x1 x2 x3 x4 (.slice x5 x7.length x6),fun p u k' e=>?_⟩ ?_
    · obtain ⟨h1,h2,h3,h4⟩:=HYY.out p u k' e;exact ⟨h1,h2.grow (Qj _ (.refl _ _)) (fun b hb=>by omega),h3,h4⟩
    rintro X ⟨HKX,HCX,HYX⟩
    have HAC:Hid (A≠g/\w6.heap.size≠g/\w.heap.size≠A/\w.heap.size < w6.heap.size):=by
     have h1:=HK6.out.r.x.hz;have h2:=HK6.out.a;exact Zh ⟨by omega,by omega,by omega,h1⟩
    clear HK6 HYY;obtain ⟨C,hC⟩:∃ C,w6.heap.size=C:=⟨_,rfl⟩;rw [hC] at HCX HAC;rw [hC];clear hC;obtain ⟨v0,v1,v2,v3,v4,v5,v6⟩:=HCX.out.box;obtain ⟨y0',y1',y2',y3',y4',y5',y6'⟩:=HKX.out.b.box;obtain ⟨⟨d0,d1,e0,e1,dz⟩,⟨qx0,qx1,qx2,qx3,qx4,qx5⟩,⟨qz0,qz1,qz2,qz3,qz4,qz5⟩,qzz⟩:=HKX.out.r.facts;have hgA:g≠A:=fun e=>HAC.out.1 e.symm
    have hgC:g≠C:=fun e=>HAC.out.2.1 e.symm
    cases R2 with
    | none=>
     have HN:Hid (R=none):=by
      show _=_;rw [<- HXK.out]
     rw [show (none:Rd).isSome=false from rfl]
     go_region
     all_goals
      go_wp2_with fail;refine bodyPost_ret (v:=.tuple #[(PB.mk kk.text ⟨#[]⟩ false 0 ⟨#[]⟩ (some ⟨X.heap.size,0,none⟩) 2 [PB.mk y0 y1 y2 y3 y4 y5 y6 y7,PB.mk x0 x1 x2 x3 x4 x5 x6 x7]).agg,.bool false]) (by simp [results,Tryz.results233,go_sem,PB.agg,PB.op,PB.s,PB.num,PB.n,PB.vs,PB.a,PB.c,PB.l, *]) rfl ⟨PB.mk kk.text ⟨#[]⟩ false 0 ⟨#[]⟩ (some ⟨X.heap.size,0,none⟩) 2 [PB.mk y0 y1 y2 y3 y4 y5 y6 y7,PB.mk x0 x1 x2 x3 x4 x5 x6 x7],t2,k2,by rw [HN.out];rfl,?_,fun p' u' k' e=>?_⟩
      · (repeat (first | with_reducible exact HKX.out.r.p | with_reducible apply ParP.drew | with_reducible apply jQx | with_reducible refine ParP.setB ?_ (Nat.le_refl _) (by omega) _))
      · rw [HN.out] at e;cases e
    | some z=>
     obtain ⟨q,u2,k3⟩:=z;rw [show (some (q,u2,k3):Rd).isSome=true from rfl];obtain ⟨hqr,hqo,hqu,rfl⟩:=HYX.out q u2 k3 rfl;have HQO:=Zh hqo;have HXN:Hid (qQK k2 (Kx kk [p,q] u2)=R):=HXK.out;rw [jJY] at HXN;obtain ⟨cb,hcb⟩:∃ cb,Lib.hasPrefix u2 [41]=cb:=⟨_,rfl⟩;obtain ⟨t3,ht3⟩:∃ t3,(jQK t2 ⟨#[41]⟩).1=t3:=⟨_,rfl⟩;have HSK:=Zh (fun W (h:Yg W g t2 k2 292)=>kQc g k2 t2 ⟨#[41]⟩ W h);rw [show (jQK t2 ⟨#[41]⟩).2=cb by rw [<- hcb,<- hqu];rfl,ht3] at HSK
     have HT:Hid (R.isSome=cb/\∀ p' u' k',R=some (p',u',k')->jQ6 kk [p,q]=p'/\t3.data.toList=u'/\k2=k'):=by
      show _/\_;rw [<- HXN.out,hcb];cases cb with
      | false=>exact ⟨rfl,fun _ _ _ e=>by cases e⟩
      | true=>
       refine ⟨rfl,fun p' u' k' e=>?_⟩;cases e;refine ⟨rfl,?_,rfl⟩;rw [<- ht3,(jJH t2).1 (by rw [hqu];exact hcb),hqu]
     have HNG:Hid ((PB.mk kk.text ⟨#[]⟩ false 0 ⟨#[]⟩ none 2 [PB.mk y0 y1 y2 y3 y4 y5 y6 y7,PB.mk x0 x1 x2 x3 x4 x5 x6 x7]).pr=jQ6 kk [p,q]):=by
      show _=_;rw [<- HPRR.out,<- hqr];rfl
     clear hqr hqo HXN hcb ht3 hqu HXK HYX;have KA:=Zh (fun W5 (hp:ParP g t3 k2 292 X.drew W5)=>jYO HKX.out hz HCX.out hgC hp);have KB:=Zh (fun W5 (hp:ParP g t3 k2 292 (X.alloc (.cells #[.string y0,.string y1,.bool y2,.int .i64 y3,.string y4,.slice y5 y7.length y6,.string x0,.string x1,.bool x2,.int .i64 x3,.string x4,.slice x5 x7.length x6] 123)).drew W5)=>aft2B HKX.out hz HCX.out hgC hp);have PAA:=Zh (show Yg X.drew g t2 k2 292 from HKX.out.r.p.at');have PBB:=Zh (show Yg (X.alloc (.cells #[.string y0,.string y1,.bool y2,.int .i64 y3,.string y4,.slice y5 y7.length y6,.string x0,.string x1,.bool x2,.int .i64 x3,.string x4,.slice x5 x7.length x6] 123)).drew g t2 k2 292 from (HKX.out.r.p.grow (Qj _ (.refl _ _))).at');have hdec:kk.text.size<=1500000:=by cases kk<;>decide
     go_region_with (go_at_call 231;(first | refine (HSK.out _ PAA.out).mono ?_;rintro x w5 ⟨rfl,hp5⟩;obtain ⟨HR5,HA5,HC5,HN5⟩:=KA.out w5 hp5 | refine (HSK.out _ PBB.out).mono ?_;rintro x w5 ⟨rfl,hp5⟩;obtain ⟨HR5,HA5,HC5,HN5,HO5⟩:=KB.out w5 hp5);clear hp5;obtain ⟨_,⟨px0,px1,px2,px3,px4,px5⟩,⟨pz0,pz1,pz2,pz3,pz4,pz5⟩,pzz⟩:=HR5.facts;obtain ⟨pv0,pv1,pv2,pv3,pv4,pv5,pv6⟩:=HC5.box;obtain ⟨pa0,pa1,pa2,pa3,pa4,pa5,pa6⟩:=HA5.box;have HR5:=Zh HR5;have HA5:=Zh HA5;have HC5:=Zh HC5;have HN5:=Zh HN5;(first | have HO5:=Zh HO5 | skip))
     all_goals
      go_wp2_with fail
      first
       | (refine bodyPost_ret (v:=.tuple #[(PB.mk kk.text ⟨#[]⟩ false 0 ⟨#[]⟩ (some ⟨X.heap.size,0,none⟩) 2 [PB.mk y0 y1 y2 y3 y4 y5 y6 y7,PB.mk x0 x1 x2 x3 x4 x5 x6 x7]).agg,.bool cb]) ?hv rfl ⟨PB.mk kk.text ⟨#[]⟩ false 0 ⟨#[]⟩ (some ⟨X.heap.size,0,none⟩) 2 [PB.mk y0 y1 y2 y3 y4 y5 y6 y7,PB.mk x0 x1 x2 x3 x4 x5 x6 x7],t3,k2,?_,?_,fun p' u' k' e=>?_⟩;case hv=>simp [results,Tryz.results233,go_sem,PB.agg,PB.op,PB.s,PB.num,PB.n,PB.vs,PB.a,PB.c,PB.l, *])
       | (refine bodyPost_ret (v:=.tuple #[(PB.mk kk.text ⟨#[]⟩ false 0 ⟨#[]⟩ (some ⟨w5.heap.size,0,none⟩) 2 [PB.mk y0 y1 y2 y3 y4 y5 y6 y7,PB.mk x0 x1 x2 x3 x4 x5 x6 x7]).agg,.bool cb]) ?hv rfl ⟨PB.mk kk.text ⟨#[]⟩ false 0 ⟨#[]⟩ (some ⟨w5.heap.size,0,none⟩) 2 [PB.mk y0 y1 y2 y3 y4 y5 y6 y7,PB.mk x0 x1 x2 x3 x4 x5 x6 x7],t3,k2,?_,?_,fun p' u' k' e=>?_⟩;case hv=>simp [results,Tryz.results233,go_sem,PB.agg,PB.op,PB.s,PB.num,PB.n,PB.vs,PB.a,PB.c,PB.l, *])
      · exact congrArg (fun b=>Ending.returned (.tuple #[_,.bool b])) HT.out.1.symm
      · (repeat (first | with_reducible exact HR5.out.p | with_reducible apply ParP.drew | with_reducible apply jQx | with_reducible refine ParP.setB ?_ (Nat.le_refl _) (by omega) _))
      ·
       obtain ⟨q1,q2,q3⟩:=HT.out.2 p' u' k' e;refine ⟨HNG.out.trans q1,?_,q2,q3⟩
       first
        | with_reducible exact finA2 HN5.out HO5.out.2 qzz hz hdec HKX.out.o HQO.out
        | with_reducible exact finB2 HN5.out pzz hz hdec HKX.out.o HQO.out
end Go.Proofs.YtcbicdencgjfiaaGreatDoor
namespace Tryst
open Go Go.RowKit Go.Lib
def Xv (s:List UInt8):Option Pr:=
 match Yy 8 s with
 | some (p,[])=>if mayP p=true then some p else none
 | _=>none
def perr (q:Option Pr):Int:=if q.isSome=true then 0 else 2
def zQf:Pr:=.mk ⟨#[]⟩ ⟨#[]⟩ false 0 ⟨#[]⟩ []
theorem jJq (s:List UInt8):Xv s=match parN 8 0 s with
 | some (p,[],_)=>if mayP p=true then some p else none
 | _=>none:=by
 rw [vJq];unfold Xv
 rcases hF:Yy 8 s with _ | ⟨p,u⟩
 · rfl
 ·
  show _=match (if 0+Q9 p<=40 then some (p,u,0+Q9 p) else none:Rd) with
   | some (p,[],_)=>if mayP p=true then some p else none
   | _=>none
  by_cases h:0+Q9 p<=40
  · rw [if_pos h];cases u<;>rfl
  ·
   rw [if_neg h]
   have:¬ mayP p=true:=fun e=>by
    rw [qQi,Bool.and_eq_true] at e;have:=of_decide_eq_true e.2;omega
   cases u with
   | nil=>simp [this]
   | cons c r=>rfl
end Tryst
namespace Go.Proofs.YtcbicdencgjfiaaGreatDoor
open Go.RowKit Tryst
theorem zQU (g m r:Nat) (hm:m<=40) (hr:r<=8) (hq:r=0∨40<=m) (s:ByteArray) (R:Rd) (hN:R=none) (w:World) (h:Yg w g s m 292) :
  Calls Tryz.prog 220 #[.pointer (some ⟨g,0,none⟩),.int .i64 (r:Int)] w fun e w'=>kQg g w R e w':=by
 have hgw:=h.cells.2.2.2.2;have HR1:=Zh (RB.start1 h (m+1));have HN:=Zh hN;obtain ⟨c0,c1,f0,f1,_⟩:=h.cells;clear h hN;go_enter Tryz.func220,Tryz.ntmps220;go_upto_region 2 with fail
 refine Qg (fun v=>Hid (RB g s (m+1) w v)) ?_ ?_
 ·
  show RB _ _ _ _ _
  first | exact HR1.out | (rw [show ((m+1:Nat):Int)=(m:Int)+1 by omega] at HR1;exact HR1.out)
 clear HR1 c0 c1 f0 f1;rintro w1 HR1;obtain ⟨⟨d0,d1,e0,e1,dz⟩,⟨qx0,qx1,qx2,qx3,qx4,qx5⟩,⟨qz0,qz1,qz2,qz3,qz4,qz5⟩,qzz⟩:=HR1.out.facts
 by_cases h0:r=0
 ·
  have y1:(r:Int) < 1:=by omega
  clear hq h0;go_wp2_with fail;refine bodyPost_ret (v:=.tuple #[(Jq ⟨#[]⟩ ⟨#[]⟩ ⟨false,0,[]⟩).agg,.bool false]) (by simp [results,Tryz.results220,go_sem,Jq,PB.agg,PB.op,PB.s,PB.num,PB.n,PB.vs,PB.a,PB.c,PB.l, *]) rfl ⟨_,s,m+1,by rw [HN.out];rfl,?_,by rw [HN.out];intro _ _ _ e;cases e⟩
  (repeat (first | with_reducible exact HR1.out.p | with_reducible apply ParP.drew | with_reducible refine ParP.setB ?_ (Nat.le_refl _) (by omega) _))
 ·
  have y1:¬ (r:Int) < 1:=by omega
  have y2:(40:Int) < (m:Int)+1:=by omega
  clear hq h0;go_wp2_with fail;refine bodyPost_ret (v:=.tuple #[(Jq ⟨#[]⟩ ⟨#[]⟩ ⟨false,0,[]⟩).agg,.bool false]) (by simp [results,Tryz.results220,go_sem,Jq,PB.agg,PB.op,PB.s,PB.num,PB.n,PB.vs,PB.a,PB.c,PB.l, *]) rfl ⟨_,s,m+1,by rw [HN.out];rfl,?_,by rw [HN.out];intro _ _ _ e;cases e⟩
  (repeat (first | with_reducible exact HR1.out.p | with_reducible apply ParP.drew | with_reducible refine ParP.setB ?_ (Nat.le_refl _) (by omega) _))
theorem qY4 (g:Nat) (hmx:0≠g):∀ r:Nat,r<=8->∀ (s:ByteArray) (m:Nat),s.size<=1500000->m<=40->∀ W,MaxW W->Yg W g s m 292->
  Calls Tryz.prog 220 #[.pointer (some ⟨g,0,none⟩),.int .i64 (r:Int)] W fun e W'=>kQg g W (parN r m s.data.toList) e W':=by
 intro r
 induction r with
 | zero=>exact fun hr s m hs hm W hM h=>zQU g m 0 hm hr (.inl rfl) s _ rfl W h
 | succ r ih=>
  intro hr s m hs hm W hM h
  by_cases h40:m < 40
  · have hp:=qJ4 g m hm r (by omega) s hs (parN r) hmx (fun s' hs' W' hM' h'=>xJz r (by omega) g (m+1) (by omega) s' hs' hmx (ih (by omega)) W' hM' h') W hM h;exact hp
  · refine zQU g m (r+1) hm hr (.inr (by omega)) s _ ?_ W h;rw [parN,if_neg h40]
theorem hown3 {w2 w3:World} {o:Obj} {n:Nat} {y:PB} (h:POwn w2 (fun b=>n<=b) y) (hb:Below (w2.alloc o).heap.size (w2.alloc o) w3):POwn w3 (fun b=>n<=b) y:=
 (h.grow (Qj o (.refl _ _)) (fun _ h=>h)).grow hb (fun _ h=>h)
theorem jY2 (s:ByteArray) (hs:s.size<=1500000) (w:World) (hM:MaxW w) :
  Calls Tryz.prog 203 #[.string s] w fun e w'=>∃ y:PB,e=.returned (.tuple #[y.agg,.int .i64 (perr (Xv s.data.toList))])/\POwn w' (fun b=>w.heap.size<=b) y/\y.pr=(Xv s.data.toList).getD zQf/\Below w.heap.size w w':=by
 have HM:=Zh hM;have HI':=Zh (fun g W hg hM h=>qY4 g hg 8 (by omega) s 0 hs (by omega) W hM h);have HX:=Zh (PBox.new w ⟨#[]⟩ ⟨#[]⟩ false 0 ⟨#[]⟩ (.slice none 0 0) 123);have hmz:=hM.2;obtain ⟨Q,hQ⟩:∃ Q,Xv s.data.toList=Q:=⟨_,rfl⟩;have HQ:=Zh ((jJq s.data.toList).symm.trans hQ);rw [hQ];obtain ⟨R,hR⟩:∃ R,parN 8 0 s.data.toList=R:=⟨_,rfl⟩;rw [hR] at HI' HQ;have HZ:Hid (∀ W S,POwn W S (Jq ⟨#[]⟩ ⟨#[]⟩ ⟨false,0,[]⟩)):=Zh (fun W S=>kQ2 _ _ _ _ _ (by decide) (by decide) (by decide) ⟨by decide,by decide⟩);have HZP:Hid ((Jq ⟨#[]⟩ ⟨#[]⟩ ⟨false,0,[]⟩).pr=zQf):=Zh (by unfold Jq zQf;rw [PB.pr,PB.prs]);clear hM hR hQ;go_enter Tryz.func203,Tryz.ntmps203;go_wp2_with fail;refine (HI'.out (w.heap.size+1) _ (by omega) (HM.out.grow (Qj _ (Qj _ (.refl _ _)))) ?_).mono ?_
 · show ((w.heap.push _).push _)[w.heap.size+1]?=_;rw [Array.getElem?_push,if_pos (by simp)];rfl
 rintro e w2 ⟨y,t,k,rfl,hp,hy⟩;have HYY:=Zh hy;have HB2:=Zh (hp.below (Qj (w:=w) _ (Qj _ (.refl _ _))) (by omega) (by simp<;>omega));have HX1:=HX.out.grow (Qj (.cells #[.string s,.int .i64 0] 292) (.refl _ _));have hne:w.heap.size≠w.heap.size+1:=by omega
 have hlt:=HX1.hz;have qx0:=(hp.cell hlt hne 0).trans HX1.c0;have qx1:=(hp.cell hlt hne 1).trans HX1.c1;have qx2:=(hp.cell hlt hne 2).trans HX1.c2;have qx3:=(hp.cell hlt hne 3).trans HX1.c3;have qx4:=(hp.cell hlt hne 4).trans HX1.c4;have qx5:=(hp.cell hlt hne 5).trans HX1.c5;have qz:∀ j,w2.frozen? ⟨w.heap.size,j,none⟩=false:=fun j=>(hp.frozen hlt hne j).trans (by simp [go_sem])
 have qz0:=qz 0;have qz1:=qz 1;have qz2:=qz 2;have qz3:=qz 3;have qz4:=qz 4;have qz5:=qz 5;obtain ⟨d0,d1,e0,e1,dz⟩:=hp.at'.cells;have qzz:w.heap.size < w2.heap.size:=by omega
 clear hp HX HX1 hlt HI' hy;have qzh:=Zh qz;clear qz;have hz1:((w.alloc (.cells #[.string ⟨#[]⟩,.string ⟨#[]⟩,.bool false,.int .i64 0,.string ⟨#[]⟩,.slice none 0 0] 123)).alloc (.cells #[.string s,.int .i64 0] 292)).heap.size=w.heap.size+2:=by simp
 cases R with
 | none=>
  have HN:Hid (Q=none):=by
   show _=_;rw [<- HQ.out]
  rw [show (none:Rd).isSome=false from rfl];clear hz1;obtain ⟨o0,o1,o2,o3,o4,o5,o6,o7⟩:=y;unfold PB.agg;simp only [PB.op,PB.s,PB.num,PB.n,PB.vs,PB.a,PB.c,PB.l];go_wp2_with fail;refine bodyPost_ret (v:=.tuple #[(Jq ⟨#[]⟩ ⟨#[]⟩ ⟨false,0,[]⟩).agg,.int .i64 2]) (by simp [results,Tryz.results203,go_sem,Jq,PB.agg,PB.op,PB.s,PB.num,PB.n,PB.vs,PB.a,PB.c,PB.l, *]) rfl ⟨Jq ⟨#[]⟩ ⟨#[]⟩ ⟨false,0,[]⟩,by rw [HN.out];rfl,HZ.out _ _,by rw [HN.out];exact HZP.out,?_⟩
  (repeat (first | with_reducible exact HB2.out | with_reducible apply Y0 | with_reducible apply Qj | with_reducible refine bset _ (Nat.le_refl _) ?_))
 | some x=>
  obtain ⟨p,u,k1⟩:=x;rw [show (some (p,u,k1):Rd).isSome=true from rfl];obtain ⟨hpr,hown,htu,rfl⟩:=HYY.out p u k1 rfl;rw [hz1] at hown;have HOWN:=Zh hown;have HPR:=Zh hpr;have HPP:=Zh (fun (W:World) (hM:MaxW W) (hb:Below w2.heap.size w2 W)=>qJE y W hM (hown.mem.grow hb));rw [hpr] at HPP;clear hown hpr HYY hz1;obtain ⟨o0,o1,o2,o3,o4,o5,o6,o7⟩:=y;unfold PB.agg at HPP ⊢;simp only [PB.op,PB.s,PB.num,PB.n,PB.vs,PB.a,PB.c,PB.l] at HPP ⊢;cases u with
  | cons c r=>
   have HN:Hid (Q=none):=by
    show _=_;rw [<- HQ.out]
   have ht:t.toList.isEmpty=false:=by rw [Qp,htu];rfl
   have ht2:¬ t.toList=[]:=by rw [Qp,htu];simp
   clear htu;go_wp2_with fail;refine bodyPost_ret (v:=.tuple #[(Jq ⟨#[]⟩ ⟨#[]⟩ ⟨false,0,[]⟩).agg,.int .i64 2]) (by simp [results,Tryz.results203,go_sem,Jq,PB.agg,PB.op,PB.s,PB.num,PB.n,PB.vs,PB.a,PB.c,PB.l, *]) rfl ⟨Jq ⟨#[]⟩ ⟨#[]⟩ ⟨false,0,[]⟩,by rw [HN.out];rfl,HZ.out _ _,by rw [HN.out];exact HZP.out,?_⟩
   (repeat (first | with_reducible exact HB2.out | with_reducible apply Y0 | with_reducible apply Qj | with_reducible refine bset _ (Nat.le_refl _) ?_))
  | nil=>
   obtain rfl:t=⟨#[]⟩:=Xk (by rw [htu]);clear htu;obtain ⟨mb,hmb⟩:∃ mb,mayP p=mb:=⟨_,rfl⟩
   have HQ2:Hid (Q=if mb=true then some p else none):=by
    show _=_;rw [<- HQ.out,<- hmb]
   rw [hmb] at HPP;clear HQ hmb;go_wp2_with fail;have HY:=Zh (PBox.new w2 o0 o1 o2 o3 o4 (.slice o5 o7.length o6) 123);have HX2:=Zh ((⟨qx0,qx1,qx2,qx3,qx4,qx5,qzz⟩:PBox w2 w.heap.size ⟨#[]⟩ ⟨#[]⟩ false 0 ⟨#[]⟩ (.slice none 0 0)).grow (Qj (.cells #[.string o0,.string o1,.bool o2,.int .i64 o3,.string o4,.slice o5 o7.length o6] 123) (.refl _ _)))
   have HZ2:Hid (∀ j,(w2.alloc (.cells #[.string o0,.string o1,.bool o2,.int .i64 o3,.string o4,.slice o5 o7.length o6] 123)).frozen? ⟨w.heap.size,j,none⟩=false):=Zh (fun j=>by
    rw [(Qj (w:=w2) (.cells #[.string o0,.string o1,.bool o2,.int .i64 o3,.string o4,.slice o5 o7.length o6] 123) (.refl _ _)).frozen (p:=⟨w.heap.size,j,none⟩) qzz];exact qzh.out j)
   refine (HPP.out _ (HM.out.grow (Qj _ HB2.out)) (Qj _ (.refl _ _))).mono ?_;rintro e w3 ⟨rfl,hb3⟩;have HY3:=HY.out.grow hb3;have HX3:=HX2.out.grow hb3;have HO3:=Zh (hown3 HOWN.out hb3);have HB3:=Zh (Qk hb3 (Qj _ HB2.out))
   have HZ3:∀ j,w3.frozen? ⟨w.heap.size,j,none⟩=false:=fun j=>by
    rw [hb3.frozen (p:=⟨w.heap.size,j,none⟩) HX2.out.hz];exact HZ2.out j
   clear qzh qx0 qx1 qx2 qx3 qx4 qx5 qz0 qz1 qz2 qz3 qz4 qz5 d0 d1 e0 e1 HX2 HY HZ2 hb3 HB2;obtain ⟨qx0,qx1,qx2,qx3,qx4,qx5,qx6⟩:=HX3;obtain ⟨px0,px1,px2,px3,px4,px5,px6⟩:=HY3;have qz0:=HZ3 0;have qz1:=HZ3 1;have qz2:=HZ3 2;have qz3:=HZ3 3;have qz4:=HZ3 4;have qz5:=HZ3 5;clear HZ3;cases mb with
   | false=>
    have HN:Hid (Q=none):=HQ2.out;have HB2:=HB3;go_wp2_with fail;refine bodyPost_ret (v:=.tuple #[(Jq ⟨#[]⟩ ⟨#[]⟩ ⟨false,0,[]⟩).agg,.int .i64 2]) (by simp [results,Tryz.results203,go_sem,Jq,PB.agg,PB.op,PB.s,PB.num,PB.n,PB.vs,PB.a,PB.c,PB.l, *]) rfl ⟨Jq ⟨#[]⟩ ⟨#[]⟩ ⟨false,0,[]⟩,by rw [HN.out];rfl,HZ.out _ _,by rw [HN.out];exact HZP.out,?_⟩
    (repeat (first | with_reducible exact HB2.out | with_reducible apply Y0 | with_reducible apply Qj | with_reducible refine bset _ (Nat.le_refl _) ?_))
   | true=>
    have HN:Hid (Q=some p):=HQ2.out;go_wp2_with fail;refine bodyPost_ret (v:=.tuple #[(PB.mk o0 o1 o2 o3 o4 o5 o6 o7).agg,.int .i64 0]) (by simp [results,Tryz.results203,go_sem,PB.agg,PB.op,PB.s,PB.num,PB.n,PB.vs,PB.a,PB.c,PB.l, *]) rfl ⟨_,by rw [HN.out];rfl,HO3.out.keep (fun j hj hlt=>?_) ?_,by rw [HN.out];exact HPR.out,?_⟩
    ·
     refine ⟨?_,by omega⟩;have hne:j≠w.heap.size:=by omega
     repeat rw [Below.heap_setCell _ _ _ _ hne]
    · simp
    · (repeat (first | with_reducible exact HB3.out | with_reducible apply Y0 | with_reducible apply Qj | with_reducible refine bset _ (Nat.le_refl _) ?_))
