import Derived.Test.YtcbicdencgjfiaaGreatDoorMayP16
import Derived.Test.YtcbicdencgjfiaaGreatDoorShM
set_option linter.all false
set_option maxHeartbeats 16000000
set_option maxRecDepth 20000
namespace Go.Proofs.YtcbicdencgjfiaaGreatDoor
open Go Go.RowKit Tryst
theorem vYD (p n x:Int) (l:List KpB) (k:Nat):Y1 ⟨⟨#[97,108,108]⟩,p,n,x⟩ l k=newK l k:=by
 unfold Y1;simp
theorem vYE (p n x:Int) (l:List KpB) (k:Nat):Y1 ⟨⟨#[97,110,121]⟩,p,n,x⟩ l k=decide (k=0):=by
 unfold Y1;simp
theorem vY2 (p n x:Int) (l:List KpB) (k:Nat):Y1 ⟨⟨#[99,111,117,110,116]⟩,p,n,x⟩ l k=decide ((k:Int) < n):=by
 unfold Y1;simp
theorem vYT {j:JB} (h:mayJ j=true):j.kind=⟨#[97,108,108]⟩∨j.kind=⟨#[97,110,121]⟩∨j.kind=⟨#[99,111,117,110,116]⟩:=by
 unfold mayJ at h;simp only [Bool.and_eq_true] at h;have h5:=h.2.2.2.2
 by_cases k1:j.kind=⟨#[97,108,108]⟩
 · exact .inl k1
 ·
  by_cases k2:j.kind=⟨#[97,110,121]⟩
  · exact .inr (.inl k2)
  ·
   by_cases k3:j.kind=⟨#[99,111,117,110,116]⟩
   · exact .inr (.inr k3)
   · rw [if_neg (fun h=>h.elim k1 k2),if_neg k3] at h5;cases h5
theorem infoB:(Tryz.prog.info? 4).map (fun i=>(i.zero,i.size,i.bytes))=some (some (.bool false),1,1):=by kernel_rfl
theorem makeB (n:Nat) (hn:n<=1500000):∃ M:List Value,M.length=n/\∀ w:World,(Instr.makeSlice 266 (.int .i64 n) (.int .i64 n)).run Tryz.prog w=.ok (.slice (some ⟨w.heap.size,0,none⟩) n n) (w.alloc (.cells M.toArray 4)):=by
 obtain ⟨i,hi,hz,h2,h3⟩:=info_parts infoB;refine ⟨(madeCells (Value.bool false).cells (n*1)).toList,by simp [size_madeCells],fun w=>?_⟩;have hr:=run_make (P:=Tryz.prog) w 266 4 i _ Tryz.underlying266 hi hz .i64 .i64 n n (by omega) (Int.le_refl _) (by rw [h3];omega) (by omega);rw [h2] at hr
 simpa using hr
def FireR (w:World) (j:JB) (l:List KpB) (g:Nat) (n i:Value) (wr:World):Prop:=∃ (k:Nat) (cs:List Value),k<=l.length/\i=.int .i64 k/\n=.int .i64 (kYV j l k:Nat)/\Hid (Var wr w.heap.size 43 [.string j.kind,.int .i64 j.parts,.int .i64 j.need,.int .i64 j.window])/\Hid (Var wr g 4 cs)/\cs.length=l.length/\Hid (∀ q,q < k->cs[q]?=some (.bool (Y1 j l q)))/\Hid (Below w.heap.size w wr)/\g < wr.heap.size
theorem zYo (p n x:Int):kYO ⟨⟨#[97,108,108]⟩,p,n,x⟩=p:=by unfold kYO;simp
theorem zYx (p n x:Int):kYO ⟨⟨#[97,110,121]⟩,p,n,x⟩=1:=by unfold kYO;simp
theorem zYt (p n x:Int):kYO ⟨⟨#[99,111,117,110,116]⟩,p,n,x⟩=n:=by unfold kYO;simp
def kYS (l:List KpB) (k q:Nat):Bool:=match l[k]? with | some x=>!((l.take q).any (fun y=>decide (y.part=x.part))) | none=>false
theorem zYE {l:List KpB} {k:Nat} (h:k < l.length):kYS l k 0=true:=by
 unfold kYS;rw [List.getElem?_eq_getElem h];rfl
theorem zYH {l:List KpB} {k q:Nat} (h:k < l.length) (hq:q < l.length):kYS l k (q+1)=(kYS l k q&&decide (l[q].part≠l[k].part)):=by
 unfold kYS;rw [List.getElem?_eq_getElem h,List.take_succ_eq_append_getElem hq];simp only [List.any_append,List.any_cons,List.any_nil,Bool.or_false,Bool.not_or];rw [show decide (l[q].part≠l[k].part)=!decide (l[q].part=l[k].part) from by simp]
theorem zYj (l:List KpB) (k:Nat):kYS l k k=newK l k:=rfl
def FrstR (wo:World) (l:List KpB) (k:Nat) (f q:Value) (wr:World):Prop:=∃ p:Nat,p<=k/\q=.int .i64 p/\f=.bool (kYS l k p)/\Hid (Below wo.heap.size wo wr)
theorem zYV (j:JB) (hj:mayJ j=true) (a:Option Addr) (c:Nat) (l:List KpB) (hl:l.length<=1500000) (w:World) (hR:Xg w a l) :
  Calls Tryz.prog 197 #[.agg #[.string j.kind,.int .i64 j.parts,.int .i64 j.need,.int .i64 j.window],.slice a l.length c] w fun e w'=>∃ g,e=.returned (.tuple #[.slice (some ⟨g,0,none⟩) l.length l.length,.bool (metJ j l)])/\w.heap.size<=g/\Row w' (some ⟨g,0,none⟩) 1 ((List.range l.length).map (fun i=>[.bool (Y1 j l i)]))/\Below w.heap.size w w':=by
 have HF:=Zh (fun W (hb:Below w.heap.size w W)=>KpR.mk (hR.grow hb));have HK:=Zh (vYT hj);have HME:Hid (metJ j l=decide (kYO j<=(kYV j l l.length:Nat))):=Zh rfl;generalize metJ j l=mj at HME;obtain ⟨M,hM,hmk⟩:=makeB l.length hl;obtain ⟨kd,ps,nd,wd⟩:=j;have HS0:=Zh (Var.new w 43 [.string kd,.int .i64 ps,.int .i64 nd,.int .i64 wd]);have HB0:=Zh (Qj (.cells #[.string kd,.int .i64 ps,.int .i64 nd,.int .i64 wd] 43) (.refl w.heap.size w));clear hR hj;simp only at HK ⊢;obtain ⟨J,hJ⟩:∃ J:JB,J=⟨kd,ps,nd,wd⟩:=⟨_,rfl⟩;rw [<- hJ] at HME ⊢;have HJJ:=Zh hJ;clear hJ
 rcases HK.out with rfl | rfl | rfl
 all_goals
  clear HK;go_enter Tryz.func197,Tryz.ntmps197;go_upto_region 1 with fail
  revert HS0 HB0;simp only [List.toArray];generalize w.alloc (.cells _ 43)=X;intro HS0 HB0;have hzs:=HS0.out.lt;have HV0:Hid (Var (X.alloc (.cells M.toArray 4)) X.heap.size 4 M):=Zh (by show (X.heap.push _)[_]?=_;simp);have HB1:=Zh (Qj (.cells M.toArray 4) HB0.out);have hXl:w.heap.size<=X.heap.size:=HB0.out.size;have HS1:=Zh (HS0.out.grow (Qj (.cells M.toArray 4) (.refl X.heap.size X)));go_wp2_with (simp only [hmk]);revert HV0 HB1 HS1;obtain ⟨G,hG⟩:∃ G,X.heap.size=G:=⟨_,rfl⟩;obtain ⟨Y,hY⟩:∃ Y,X.alloc (.cells M.toArray 4)=Y:=⟨_,rfl⟩;have hGY:G < Y.heap.size:=by rw [<- hY,<- hG];simp
  rw [hY,hG];rw [hG] at hXl hzs;intro HV0 HB1 HS1;clear hY hmk HS0 HB0;go_loopw [7,8] (fun n i wr=>FireR w J l G n i wr) (fun _ i _=>l.length - (intOf i).toNat)
  case atStart=>exact ⟨0,M,by omega,rfl,rfl,Zh (by rw [HJJ.out];exact HS1.out),HV0,hM,Zh (fun q hq=>by omega),HB1,hGY⟩
  case round=>
   clear HS1 HV0 HB1 hGY hM;obtain ⟨k,cs,hk,rfl,rfl,HJ,HV,hcs,HC,HW,hz⟩:=hrel;have HJ:=Zh (HJ.out);rw [HJJ.out] at HJ;obtain ⟨wo,rfl⟩:∃ wo,wo=wr:=⟨_,rfl⟩
   by_cases hlt:k < l.length
   ·
    obtain ⟨b,o,ha,hb⟩:=(HF.out wo HW.out).head hlt;subst ha;have x1:(k:Int) < l.length:=by omega
    have x2:(0:Int)<=k:=by omega
    go_wp2_with fail;go_loopw [9,10] (fun f q wr=>FrstR wo l k f q wr) (fun _ q _=>k - (intOf q).toNat)
    case atStart=>exact ⟨0,by omega,rfl,by rw [zYE hlt],Zh (.refl _ _)⟩
    case round=>
     obtain ⟨q,hq,rfl,rfl,HP⟩:=hrel;obtain ⟨wq,rfl⟩:∃ wq,wq=wr:=⟨_,rfl⟩;have HQ:=Zh (Qk HP.out HW.out)
     by_cases hql:q < k
     ·
      have hq2:q < l.length:=by omega
      obtain ⟨hbq,f0,_,_⟩:=Xg.at (HF.out wq HQ.out).r hlt;obtain ⟨_,g0,_,_⟩:=Xg.at (HF.out wq HQ.out).r hq2;have HNX:=Zh (zYH hlt hq2);have y1:(q:Int) < l.length:=by omega
      have y2:(q:Int) < k:=by omega
      have y3:(0:Int)<=q:=by omega
      generalize kYS l k q=fq at HNX ⊢;clear HC HV HJ HF HME HQ;go_upto_region 10 with fail
      cases fq
      case' false=>
       have HN:Hid (kYS l k (q+1)=false):=Zh (by rw [HNX.out];rfl);clear HNX
      case' true=>
       by_cases hpp:l[q].part=l[k].part
       case' pos=>
        have HN:Hid (kYS l k (q+1)=false):=Zh (by rw [HNX.out];simp [hpp]);have z1:(l[q].part==l[k].part)=true:=by rw [beq_iff_eq];exact hpp
        clear HNX
       case' neg=>
        have HN:Hid (kYS l k (q+1)=true):=Zh (by rw [HNX.out];simp [hpp]);have z1:(l[q].part==l[k].part)=false:=by rw [beq_eq_false_iff_ne];exact hpp
        clear HNX
      all_goals
       refine Tryst2.wp_region_text 14 (by kernel_rfl) (by kernel_rfl) ?_
       iterate 14 ((first | refine Tryst2.TW.skip (by rfl) ?_ | (refine' Tryst2.TW.op _ ?_ (by rfl) ?_;rotate_left;focus (intro w' hg;obtain ⟨hcg,hfg,hsg⟩:=YG hg;first | (go_simp;done) | (go_simp;with_reducible rfl) )));simp only [Act.put,List.setIfInBounds_toArray,List.set_cons_zero,List.set_cons_succ])
       intro w' hg;obtain ⟨hcg,hfg,hsg⟩:=YG hg
       try change wpList _ _ _ [] _ _
       have HP9:=Zh (Qk (Tryst2.Grow.below hg (.refl _ _)) HP.out);clear hg hcg hfg hsg;go_wp2_with fail;go_roundw
       case rel=>exact ⟨q+1,by omega,by go_num,(by first | (rw [HN.out];done) | (rw [HN.out];rfl) | (rw [HN.out];simp;assumption)),HP9⟩
       case measure=>simp [intOf]<;>omega
     ·
      obtain rfl:q=k:=by omega
      have HJ2:=Zh (HJ.out.grow HP.out);have HV2:=Zh (HV.out.grow HP.out);have hz2:G < wq.heap.size:=Nat.lt_of_lt_of_le hz HP.out.size;have HFS:=Zh (zY9 J l q);have hfl:=zYW J l q;obtain ⟨v,hv⟩:∃ v,Y1 J l q=v:=⟨_,rfl⟩;rw [hv] at HFS
      have HC2:Hid (∀ j,j < q+1->(cs.set q (.bool v))[j]?=some (.bool (Y1 J l j))):=Zh (fun j hj=>by
       by_cases e:j=q
       · subst e;rw [List.getElem?_set_self (by omega),hv]
       · rw [List.getElem?_set_ne (by omega)];exact HC.out j (by omega))
      have hcs2:(cs.set q (.bool v)).length=l.length:=by rw [List.length_set];exact hcs
      have HV3:=Zh (HV2.out.set q (.bool v));have HJ3:=Zh (HJ2.out.away (c:=G) (o:=q) (by omega) (.bool v));have HW3:=Zh (bset (.bool v) (p:=⟨G,q,none⟩) (show w.heap.size<=G from hXl) HQ.out);have hfr:=HV2.out.fz q;have hcc:wq.cell? ⟨G,q,none⟩=some (cs[q]'(by omega)):=by rw [HV2.out.cell q,List.getElem?_eq_getElem (by omega)]
      have hsh:=HV2.out.shape;rw [hcs] at hsh;obtain ⟨j0,j1,j2,j3⟩:=v4 (HJ2.out);have hzj:=HJ2.out.lt
      first
       | (have z0:kYS l q q=v:=by rw [zYj,<- vYD ps nd wd,<- hv,HJJ.out]);rw [z0]
       | (have z0:((q:Int)==0)=v:=by rw [<- hv,HJJ.out,vYE,Bool.eq_iff_iff,beq_iff_eq,decide_eq_true_eq];omega)
       | (have z0:decide ((q:Int) < nd)=v:=by rw [<- hv,HJJ.out,vY2])
      generalize kYS l q q=nk;clear hv HC HV HJ HV2 HJ2 HF HME HQ HW HP;cases v
      all_goals
       try have z1:=of_decide_eq_true z0
       try have z1:=of_decide_eq_false z0
       try (have z1:q=0:=by (have:=eq_of_beq z0;omega));subst z1;clear z0
       try (have z1:¬ q=0:=fun e=>absurd z0 (by rw [e];decide));have z2:(q==0)=false:=by rw [beq_eq_false_iff_ne];exact z1
       go_wp2_with fail;go_roundw
       case rel=>first | exact ⟨q+1,_,by omega,by go_num,by rw [HFS.out];go_num,Zh (by rw [HJJ.out];exact HJ3.out),HV3,hcs2,HC2,HW3,by simpa using hz2⟩ | exact ⟨0+1,_,by omega,by go_num,by rw [HFS.out];go_num,Zh (by rw [HJJ.out];exact HJ3.out),HV3,hcs2,HC2,HW3,by simpa using hz2⟩
       case measure=>simp [intOf]<;>omega
   ·
    obtain rfl:k=l.length:=by omega
    have HRW:Hid (Row wo (some ⟨G,0,none⟩) 1 ((List.range l.length).map (fun i=>[.bool (Y1 J l i)]))):=Zh (fun i hi=>by
     simp only [List.length_map,List.length_range] at hi;refine ⟨G,0,rfl,hz,fun j hj=>?_⟩;obtain rfl:j=0:=by simpa using hj
     simp only [List.getElem_map,List.getElem_range];rw [show 0+i*1+0=i by omega,HV.out.cell i,HC.out i hi];rfl)
    obtain ⟨j0,j1,j2,j3⟩:=v4 (HJ.out);have hzj:=HJ.out.lt;have hm:=HME.out
    first | rw [HJJ.out,zYo] at hm | rw [HJJ.out,zYx] at hm | rw [HJJ.out,zYt] at hm
    rw [<- HJJ.out] at hm;generalize kYV J l l.length=n at hm ⊢;clear HV HJ HC HF HME;cases mj
    case' false=>have y5:=of_decide_eq_false hm.symm
    case' true=>have y5:=of_decide_eq_true hm.symm
    all_goals
     clear hm;go_wp2_with fail
     first | go_ret2 | go_ret
     exact ⟨G,by first | rfl | (simp;omega),hXl,HRW.out,HW.out⟩
end Go.Proofs.YtcbicdencgjfiaaGreatDoor
namespace Go.Proofs.YtcbicdencgjfiaaGreatDoor
open Go Go.RowKit Tryst
theorem vYA {l:List KpB} {k:Nat} (hk:0 < k) (hlt:k < l.length) (t:Int):vQ5 (l.take k) t=decide (t < (l[k - 1]'(by omega)).time):=by
 unfold vQ5
 have:(l.take k).getLast?=some (l[k - 1]'(by omega)):=by
  rw [List.getLast?_eq_getElem?,List.length_take,Nat.min_eq_left (Nat.le_of_lt hlt),List.getElem?_take_of_lt (by omega),List.getElem?_eq_getElem]
 rw [this]
theorem kYi {l:List KpB} {k q:Nat} (hlt:k < l.length) (hq:q < k) (h:l[q].id=l[k].id):(l.take k).any (fun y=>(y.id:Int)==(l[k].id:Int))=true:=by
 rw [List.any_eq_true];refine ⟨l[q],?_,by rw [beq_iff_eq,h]⟩;rw [List.mem_take_iff_getElem];exact ⟨q,by omega,rfl⟩
theorem zY8 {l:List KpB} {k:Nat} (hlt:k < l.length) (h:∀ (p:Nat) (hp:p < l.length),p < k->l[p].id≠l[k].id):(l.take k).any (fun y=>(y.id:Int)==(l[k].id:Int))=false:=by
 rw [List.any_eq_false];intro y hy;rw [List.mem_take_iff_getElem] at hy;obtain ⟨p,hp,rfl⟩:=hy;rw [beq_iff_eq];have:=h p (by omega) (by omega);omega
def IdR (wo:World) (l:List KpB) (k:Nat) (i:Value) (wr:World):Prop:=∃ q:Nat,q<=k/\i=.int .i64 q/\Hid (∀ (p:Nat) (hp:p < l.length) (hk:k < l.length),p < q->l[p].id≠l[k].id)/\Hid (Below wo.heap.size wo wr)
theorem kYx (j:JB) (a:Option Addr) (c:Nat) (l:List KpB) (hl:l.length<=1500000) (w:World) (hR:Xg w a l) :
  Calls Tryz.prog 151 #[.agg #[.string j.kind,.int .i64 j.parts,.int .i64 j.need,.int .i64 j.window],.slice a l.length c] w fun e w'=>e=.returned (.bool (qQg j l))/\Below w.heap.size w w':=by
 have HF:=Zh (fun W (hb:Below w.heap.size w W)=>KpR.mk (hR.grow hb));have CJ:=Zh (fun W=>zY1 j W);have CF:=Zh (fun (h:mayJ j=true) W (hb:Below w.heap.size w W)=>zYV j h a c l hl W (hR.grow hb));obtain ⟨VV,hVV⟩:∃ VV,qQg j l=VV:=⟨_,rfl⟩;rw [hVV];rw [zYi] at hVV;obtain ⟨R,hRR⟩:∃ R,okH (kQB j.parts) [] l=R:=⟨_,rfl⟩;rw [hRR] at hVV;have HR:Hid (R=okH (kQB j.parts) (l.take 0) (l.drop 0)):=Zh (by rw [<- hRR];rfl);generalize metJ j l=mt at CF hVV;have HVV:=Zh hVV;clear hR hVV hRR;generalize mayJ j=mj at CJ CF HVV;obtain ⟨kd,ps,nd,wd⟩:=j;simp only at HR CJ CF ⊢;have HS0:=Zh (Var.new w 43 [.string kd,.int .i64 ps,.int .i64 nd,.int .i64 wd]);have HB0:=Zh (Qj (.cells #[.string kd,.int .i64 ps,.int .i64 nd,.int .i64 wd] 43) (.refl w.heap.size w));go_enter Tryz.func151,Tryz.ntmps151;go_upto_region 1 with fail
 revert HS0 HB0;simp only [List.toArray];generalize w.alloc (.cells _ 43)=X;intro HS0 HB0;obtain ⟨j0,j1,j2,j3⟩:=v4 (HS0.out);have hzj:=HS0.out.lt;go_wp2_with fail;refine (CJ.out X).mono ?_;rintro e w1 ⟨rfl,hb1⟩;have HS1:=Zh (HS0.out.grow hb1);have HB1:=Zh (Qk hb1 HB0.out);clear hb1 HS0 HB0 j0 j1 j2 j3 hzj CJ;cases mj with
 | false=>
  have HN:Hid (VV=false):=Zh (by rw [<- HVV.out];rfl);go_wp2_with fail;go_ret;exact ⟨Qq HN.out.symm,HB1.out⟩
 | true=>
  by_cases h30:l.length < 30
  case neg=>
   have HN:Hid (VV=false):=Zh (by rw [<- HVV.out,decide_eq_false h30];rfl);have z30:(30:Int)<=l.length:=by omega
   go_wp2_with fail;go_ret;exact ⟨Qq HN.out.symm,HB1.out⟩
  case pos=>
   have HV2:Hid (VV=(R&&!mt)):=Zh (by rw [<- HVV.out,decide_eq_true h30];rfl);have z30:¬ (30:Int)<=l.length:=by omega
   clear HVV;go_wp2_with fail;clear z30;go_loopw [5] (fun i wr=>OkH (kQB ps) w1 l R i wr) (fun i _=>l.length - (intOf i).toNat)
   case atStart=>exact ⟨0,by omega,rfl,HR,Zh (.refl _ _)⟩
   case round=>
    clear HR;obtain ⟨k,hk,rfl,HP,HW⟩:=hrel;obtain ⟨wo,rfl⟩:∃ wo,wo=wr:=⟨_,rfl⟩;have HWW:=Zh (Qk HW.out HB1.out);have HSo:=Zh (HS1.out.grow HW.out)
    by_cases hlt:k < l.length
    ·
     obtain ⟨b,o,ha,hb⟩:=(HF.out wo HWW.out).head hlt;subst ha;obtain ⟨_,f0,f1,f2⟩:=Xg.at (HF.out wo HWW.out).r hlt;have x1:(k:Int) < l.length:=by omega
     have x2:(0:Int)<=k:=by omega
     obtain ⟨j0,j1,j2,j3⟩:=v4 (HSo.out);have hzj:=HSo.out.lt;have HST:Hid (R=(((decide (0<=l[k].part)&&(decide (l[k].part < ps)&&(decide (0<=l[k].time)&&decide (l[k].time<=1099511627775))))&&(!(vQ5 (l.take k) l[k].time)&&!((l.take k).any (fun y=>(y.id:Int)==(l[k].id:Int)))))&&okH (kQB ps) (l.take (k+1)) (l.drop (k+1)))):=Zh (HP.out.trans (kQl hlt));clear HP;go_upto_region 6 with fail
     by_cases c1:0<=l[k].part
     case' neg=>
      have HN:Hid (VV=false):=Zh (by rw [HV2.out,HST.out,decide_eq_false c1];rfl);have y1:l[k].part < 0:=by omega
     case' pos=>
      have y1:¬ l[k].part < 0:=by omega
      by_cases c2:l[k].part < ps
      case' neg=>
       have HN:Hid (VV=false):=Zh (by rw [HV2.out,HST.out,decide_eq_false c2];simp);have y2:ps<=l[k].part:=by omega
      case' pos=>
       have y2:¬ ps<=l[k].part:=by omega
       by_cases c3:0<=l[k].time
       case' neg=>
        have HN:Hid (VV=false):=Zh (by rw [HV2.out,HST.out,decide_eq_false c3];simp);have y3:l[k].time < 0:=by omega
       case' pos=>
        have y3:¬ l[k].time < 0:=by omega
        by_cases c4:l[k].time<=1099511627775
        case' neg=>
         have HN:Hid (VV=false):=Zh (by rw [HV2.out,HST.out,decide_eq_false c4];simp);have y4:1099511627775 < l[k].time:=by omega
        case' pos=>
         have y4:¬ 1099511627775 < l[k].time:=by omega
         have HS2:Hid (R=((!(vQ5 (l.take k) l[k].time)&&!((l.take k).any (fun y=>(y.id:Int)==(l[k].id:Int))))&&okH (kQB ps) (l.take (k+1)) (l.drop (k+1)))):=Zh (by rw [HST.out,decide_eq_true c1,decide_eq_true c2,decide_eq_true c3,decide_eq_true c4];rfl)
         by_cases hk0:k=0
         case' pos=>
          have HG:Hid (R=(!((l.take k).any (fun y=>(y.id:Int)==(l[k].id:Int)))&&okH (kQB ps) (l.take (k+1)) (l.drop (k+1)))):=Zh (by rw [HS2.out,show vQ5 (l.take k) l[k].time=false from by (have:∀ t,vQ5 (l.take k) t=false:=fun t=>by rw [hk0];rfl);exact this _];rfl);have y5:¬ (0:Int) < k:=by omega
          have y6:¬ 0 < k:=by omega
          clear hk0
         case' neg=>
          have y5:(0:Int) < k:=by omega
          have hk1:0 < k:=by omega
          obtain ⟨_,_,_,g2⟩:=Xg.at (HF.out wo HWW.out).r (show k - 1 < l.length by omega);have hea:=vYA hk1 hlt l[k].time;obtain ⟨m,hm⟩:∃ m,k - 1=m:=⟨_,rfl⟩;have y6:IntKind.i64.wrap ((k:Int) - 1)=(m:Int):=by rw [IntWalk.i64_in _ (by omega)];omega
          have y7:(m:Int) < l.length:=by omega
          have y8:(0:Int)<=m:=by omega
          simp only [hm] at g2 hea
          by_cases c5:l[k].time < (l[m]'(by omega)).time
          case' pos=>
           have HN:Hid (VV=false):=Zh (by rw [HV2.out,HS2.out,hea,decide_eq_true c5];rfl)
          case' neg=>
           have HG:Hid (R=(!((l.take k).any (fun y=>(y.id:Int)==(l[k].id:Int)))&&okH (kQB ps) (l.take (k+1)) (l.drop (k+1)))):=Zh (by rw [HS2.out,hea,decide_eq_false c5];rfl)
     all_goals
      try clear HS2
      clear HST;refine Tryst2.wp_region_text 50 (by kernel_rfl) (by kernel_rfl) ?_
      iterate 50 ((first | refine Tryst2.TW.skip (by rfl) ?_ | (refine' Tryst2.TW.op _ ?_ (by rfl) ?_;rotate_left;focus (intro w' hg;obtain ⟨hcg,hfg,hsg⟩:=YG hg;first | (go_simp;done) | (go_simp;with_reducible rfl) )));simp only [Act.put,List.setIfInBounds_toArray,List.set_cons_zero,List.set_cons_succ])
      intro w' hg;obtain ⟨hcg,hfg,hsg⟩:=YG hg
      try change wpList _ _ _ [] _ _
      have HB9:=Zh (Qk (Tryst2.Grow.below hg (.refl _ _)) HW.out);have HWW9:=Zh (Qk (Tryst2.Grow.below hg (.refl _ _)) HWW.out);clear hg hcg hfg hsg j0 j1 j2 j3 hzj HSo HW HWW;go_wp2_with fail
      first
       | (go_ret;exact ⟨Qq HN.out.symm,HWW9.out⟩)
       | skip
     all_goals
      try clear y8 y7 y6 y5
      try clear y6 y5
      clear y1 y2 y3 y4;go_loopw [6] (fun i wr=>IdR w' l k i wr) (fun i _=>k - (intOf i).toNat)
      case atStart=>exact ⟨0,by omega,rfl,Zh (fun p hp hk hq=>by omega),Zh (.refl _ _)⟩
      case round=>
       obtain ⟨q,hq,rfl,HI,HP⟩:=hrel;obtain ⟨wq,rfl⟩:∃ wq,wq=wr:=⟨_,rfl⟩;have HQ:=Zh (Qk HP.out HB9.out);have HQQ:=Zh (Qk HP.out HWW9.out)
       by_cases hql:q < k
       ·
        have hq2:q < l.length:=by omega
        obtain ⟨hbq,_,f1,_⟩:=Xg.at (HF.out wq HQQ.out).r hlt;obtain ⟨_,_,g1,_⟩:=Xg.at (HF.out wq HQQ.out).r hq2;have y1:(q:Int) < l.length:=by omega
        have y2:(q:Int) < k:=by omega
        have y3:(0:Int)<=q:=by omega
        go_upto_region 11 with fail
        by_cases hpp:l[q].id=l[k].id
        ·
         have HN:Hid (VV=false):=Zh (by rw [HV2.out,HG.out,kYi hlt hql hpp];simp);have z1:((l[q].id:Int)==(l[k].id:Int))=true:=by rw [hpp,beq_iff_eq]
         clear hpp;refine Tryst2.wp_region_text 11 (by kernel_rfl) (by kernel_rfl) ?_
         iterate 11 ((first | refine Tryst2.TW.skip (by rfl) ?_ | (refine' Tryst2.TW.op _ ?_ (by rfl) ?_;rotate_left;focus (intro w' hg;obtain ⟨hcg,hfg,hsg⟩:=YG hg;first | (go_simp;done) | (go_simp;with_reducible rfl) )));simp only [Act.put,List.setIfInBounds_toArray,List.set_cons_zero,List.set_cons_succ])
         intro w' hg;obtain ⟨hcg,hfg,hsg⟩:=YG hg
         try change wpList _ _ _ [] _ _
         have HQ9:=Zh (Qk (Tryst2.Grow.below hg (.refl _ _)) HQQ.out);clear hg hcg hfg hsg;go_wp2_with fail;go_ret;exact ⟨Qq HN.out.symm,HQ9.out⟩
        ·
         have HI2:Hid (∀ (p:Nat) (hp:p < l.length) (hk:k < l.length),p < q+1->l[p].id≠l[k].id):=Zh (fun p hp hk h=>by
          by_cases e:p=q
          · subst e;exact hpp
          · exact HI.out p hp hk (by omega))
         have z1:((l[q].id:Int)==(l[k].id:Int))=false:=by rw [beq_eq_false_iff_ne];omega
         clear hpp HI;refine Tryst2.wp_region_text 11 (by kernel_rfl) (by kernel_rfl) ?_
         iterate 11 ((first | refine Tryst2.TW.skip (by rfl) ?_ | (refine' Tryst2.TW.op _ ?_ (by rfl) ?_;rotate_left;focus (intro w' hg;obtain ⟨hcg,hfg,hsg⟩:=YG hg;first | (go_simp;done) | (go_simp;with_reducible rfl) )));simp only [Act.put,List.setIfInBounds_toArray,List.set_cons_zero,List.set_cons_succ])
         intro w' hg;obtain ⟨hcg,hfg,hsg⟩:=YG hg
         try change wpList _ _ _ [] _ _
         have HP9:=Zh (Qk (Tryst2.Grow.below hg (.refl _ _)) HP.out);clear hg hcg hfg hsg;go_wp2_with fail;go_roundw
         case rel=>exact ⟨q+1,by omega,by go_num,HI2,HP9⟩
         case measure=>simp [intOf]<;>omega
       ·
        obtain rfl:q=k:=by omega
        have HN:Hid (R=okH (kQB ps) (l.take (q+1)) (l.drop (q+1))):=Zh (by rw [HG.out,zY8 hlt (fun p hp h=>HI.out p hp hlt h)];rfl);go_wp2_with fail;go_roundw
        case rel=>exact ⟨q+1,by omega,by go_num,HN,HQ⟩
        case measure=>simp [intOf]<;>omega
    · have HN:Hid (R=true):=Zh (HP.out.trans (zQj (by omega)));obtain ⟨j0,j1,j2,j3⟩:=v4 (HSo.out);have hzj:=HSo.out.lt;go_wp2_with fail;refine (CF.out trivial _ HWW.out).mono ?_;rintro e w5 ⟨g,rfl,_,_,hb5⟩;have HB5:=Zh (Qk hb5 HWW.out);clear hb5;go_wp2_with fail;go_ret;exact ⟨Qq (by rw [HV2.out,HN.out];rfl),HB5.out⟩
