import Derived.Test.YtcbicdencgjfiaaGreatDoorRtD
set_option linter.all false
set_option maxHeartbeats 4000000
set_option maxRecDepth 20000
namespace Go.Proofs.YtcbicdencgjfiaaGreatDoor
open Go Go.RowKit Tryst
def okW (taken now:Int) (k:KpB):Bool:=decide (1<=k.id)&&(decide ((k.id:Int)<=taken)&&decide (k.time<=now))
def kQ9 (x:SubB) (now:Int):Bool:=qQM x.d.j x.il&&x.il.all (fun y=>y.l.all (okW x.taken now))
theorem kJk (x:SubB) (now:Int) (h0:0<=x.taken) (w:World) (hO:SubO w x) :
  Calls Tryz.prog 183 #[x.agg,.int .i64 now] w fun e w'=>e=.returned (.bool (kQ9 x now))/\Below w.heap.size w w':=by
 have CI:=Zh (fun W (hb:Below w.heap.size w W)=>xQu x.d.j x.ia x.ic x.il hO.il hO.iL hO.iS W (hO.i.grow hb));have HF:=Zh (fun W (hb:Below w.heap.size w W)=>hO.i.grow hb);have hil:=hO.il;have HIL:=Zh hO.iL;obtain ⟨_,r1⟩:=hO.r2;clear hO;obtain ⟨⟨nm,ga,gl,gc,wa,wl,wc,ky,⟨kd,ps,nd,wd⟩⟩,oa,ol,oc,ia,il,ic,fails,taken,passes,fires,over⟩:=x;unfold kQ9 SubB.agg;simp only at CI HF hil HIL r1 h0 ⊢;obtain ⟨ci,hci⟩:∃ ci,qQM ⟨kd,ps,nd,wd⟩ il=ci:=⟨_,rfl⟩;obtain ⟨R,hRR⟩:∃ R,il.all (fun y=>y.l.all (okW taken now))=R:=⟨_,rfl⟩;rw [hci] at CI;rw [hci,hRR];have HR:Hid (R=(il.drop 0).all (fun y=>y.l.all (okW taken now))):=Zh (by rw [<- hRR];rfl);clear hci hRR;have yu:IntKind.u64.wrap taken=taken:=IntWalk.u64_in _ (by omega);have HX:=Zh (Var.new w 68 [.string nm,.slice ga gl.length gc,.slice wa wl.length wc,.string ky,.string kd,.int .i64 ps,.int .i64 nd,.int .i64 wd,.slice oa ol.length oc,.slice ia il.length ic,.int .i64 fails,.int .i64 taken,.int .i64 passes,.int .i64 fires,.int .i64 over]);have HB0:=Zh (Qj (.cells #[.string nm,.slice ga gl.length gc,.slice wa wl.length wc,.string ky,.string kd,.int .i64 ps,.int .i64 nd,.int .i64 wd,.slice oa ol.length oc,.slice ia il.length ic,.int .i64 fails,.int .i64 taken,.int .i64 passes,.int .i64 fires,.int .i64 over] 68) (.refl w.heap.size w));go_enter Tryz.func183,Tryz.ntmps183;go_upto_region 1 with fail
 revert HX HB0;simp only [List.toArray];generalize w.alloc (.cells _ 68)=X;intro HX HB0;obtain ⟨x0,x1,x2,x3,x4,x5,x6,x7,x8,x9,x10,x11,x12,x13,x14⟩:=v15 (HX.out);have hzx:=HX.out.lt;go_wp2_with fail;refine (CI.out _ HB0.out).mono ?_;rintro e w1 ⟨rfl,hb1⟩;have HX1:=Zh (HX.out.grow hb1);have HB1:=Zh (Qk hb1 HB0.out);clear hb1 x0 x1 x2 x3 x4 x5 x6 x7 x8 x9 x10 x11 x12 x13 x14 hzx HX HB0 CI;obtain ⟨x0,x1,x2,x3,x4,x5,x6,x7,x8,x9,x10,x11,x12,x13,x14⟩:=v15 (HX1.out);have hzx:=HX1.out.lt;cases ci with
 | false=>
  rw [show errO false=1 from rfl];go_wp2_with fail;go_ret;exact ⟨rfl,HB1.out⟩
 | true=>
  rw [show errO true=0 from rfl];go_wp2_with fail;clear x0 x1 x2 x3 x4 x5 x6 x7 x8 x9 x10 x11 x12 x13 x14;go_loopw [19] (fun i wr=>AlH (fun y:InB=>y.l.all (okW taken now)) w1 il R i wr) (fun i _=>il.length - (intOf i).toNat)
  case atStart=>exact ⟨0,by omega,rfl,HR,Zh (.refl _ _)⟩
  case round=>
   clear HR;obtain ⟨k,hk,rfl,HP,HW⟩:=hrel;obtain ⟨wo,rfl⟩:∃ wo,wo=wr:=⟨_,rfl⟩
   by_cases hlt:k < il.length
   ·
    have HWW:=Zh (Qk HW.out HB1.out);obtain ⟨b,o,ha,hb⟩:=(HF.out wo HWW.out).head hlt;subst ha;obtain ⟨_,f0,f1,f2,f3⟩:=(HF.out wo HWW.out).at hlt;have HST:Hid (R=(il[k].l.all (okW taken now)&&(il.drop (k+1)).all (fun y=>y.l.all (okW taken now)))):=Zh (HP.out.trans (kQy hlt));obtain ⟨R3,hR3⟩:∃ R3,(il.drop (k+1)).all (fun y=>y.l.all (okW taken now))=R3:=⟨_,rfl⟩;have HR3:=Zh hR3;rw [hR3] at HST;have HME:=Zh (fun W (hb:Below w.heap.size w W)=>KpR.mk ((HF.out W hb).mem _ (List.getElem_mem hlt)));have hxl:=HIL.out _ (List.getElem_mem hlt);have x1:(k:Int) < il.length:=by omega
    have x2:(0:Int)<=k:=by omega
    obtain ⟨x,hx⟩:∃ x,il[k]=x:=⟨_,rfl⟩;rw [hx] at f0 f1 f2 f3 HST HME hxl;clear hx hR3 HP;obtain ⟨xb,xn,xs,xa,xl,xc⟩:=x;simp only at f0 f1 f2 f3 HST HME hxl;obtain ⟨R2,hR2⟩:∃ R2,xl.all (okW taken now)=R2:=⟨_,rfl⟩;rw [hR2] at HST;have HR2:Hid (R2=(xl.drop 0).all (okW taken now)):=Zh (by rw [<- hR2];rfl);clear hR2;have HW3:=Zh (Qk (Qj (.cells #[.bool xb,.int .i64 xn,.string xs,.slice xa xl.length xc] 130) (.refl wo.heap.size wo)) HW.out);go_wp2_with fail;clear f0 f1 f2 f3;go_loopw [26] (fun i wr=>AlH (okW taken now) w1 xl R2 i wr) (fun i _=>xl.length - (intOf i).toNat)
    case atStart=>exact ⟨0,by omega,rfl,HR2,HW3⟩
    case round=>
     clear HR2 HW3;obtain ⟨q,hq,rfl,HP2,HW2⟩:=hrel;obtain ⟨wq,rfl⟩:∃ wq,wq=wr:=⟨_,rfl⟩;have HWW2:=Zh (Qk HW2.out HB1.out)
     by_cases hql:q < xl.length
     ·
      obtain ⟨b2,o2,ha2,hb2⟩:=(HME.out wq HWW2.out).head hql;subst ha2;obtain ⟨_,k0,k1,k2⟩:=Xg.at (HME.out wq HWW2.out).r hql;have HS5:Hid (R2=(okW taken now xl[q]&&(xl.drop (q+1)).all (okW taken now))):=Zh (HP2.out.trans (kQy hql));have q1:(q:Int) < xl.length:=by omega
      have q2:(0:Int)<=q:=by omega
      have HXq:=Zh (HX1.out.grow HW2.out);obtain ⟨x0,x1,x2,x3,x4,x5,x6,x7,x8,x9,x10,x11,x12,x13,x14⟩:=v15 (HXq.out);have hzq:=HXq.out.lt;have HWX:=Zh (Qk (Qj (.cells #[.int .i64 xl[q].part,.int .u64 xl[q].id,.int .i64 xl[q].time] 155) (.refl wq.heap.size wq)) HW2.out);have HWY:=Zh (Qk (Qj (.cells #[.int .i64 xl[q].part,.int .u64 xl[q].id,.int .i64 xl[q].time] 155) (.refl wq.heap.size wq)) HWW2.out);generalize xl[q]=kq at k0 k1 k2 HS5 HWX HWY ⊢;obtain ⟨kp,ki,kt⟩:=kq;unfold okW at HS5;simp only at k0 k1 k2 HS5 HWX HWY ⊢;clear HP2
      by_cases g1:1<=ki
      case neg=>
       have HN:Hid (R=false):=Zh (by rw [HST.out,HS5.out,decide_eq_false g1];rfl);have z1:(ki:Int) < 1:=by omega
       go_wp2_with fail;go_ret;exact ⟨Qq (by rw [HN.out];rfl),HWY.out⟩
      have z1:¬ (ki:Int) < 1:=by omega
      by_cases g2:(ki:Int)<=taken
      case neg=>
       have HN:Hid (R=false):=Zh (by rw [HST.out,HS5.out,decide_eq_false g2];simp);have z2:taken < (ki:Int):=by omega
       go_wp2_with fail;go_ret;exact ⟨Qq (by rw [HN.out]),HWY.out⟩
      have z2:¬ taken < (ki:Int):=by omega
      by_cases g3:kt<=now
      case neg=>
       have HN:Hid (R=false):=Zh (by rw [HST.out,HS5.out,decide_eq_false g3];simp);have z3:now < kt:=by omega
       go_wp2_with fail;go_ret;exact ⟨Qq (by rw [HN.out]),HWY.out⟩
      have z3:¬ now < kt:=by omega
      have HN:Hid (R2=(xl.drop (q+1)).all (okW taken now)):=Zh (by rw [HS5.out,decide_eq_true g1,decide_eq_true g2,decide_eq_true g3];rfl);go_wp2_with fail;go_roundw
      case rel=>exact ⟨q+1,by omega,by go_num,HN,HWX⟩
      case measure=>simp [intOf]<;>omega
     ·
      have hqe:xl.length<=q:=by omega
      have HN:Hid (R=(il.drop (k+1)).all (fun y=>y.l.all (okW taken now))):=Zh (by rw [HR3.out,HST.out,HP2.out,zQp hqe];rfl);go_wp2_with fail;go_roundw
      case rel=>exact ⟨k+1,by omega,by go_num,HN,HW2⟩
      case measure=>simp [intOf]<;>omega
   · have HN:Hid (R=true):=Zh (HP.out.trans (zQp (by omega:il.length<=k)));have HWW:=Zh (Qk HW.out HB1.out);go_wp2_with fail;go_ret;exact ⟨Qq (by rw [HN.out];rfl),HWW.out⟩
end Go.Proofs.YtcbicdencgjfiaaGreatDoor
namespace Go.Proofs.YtcbicdencgjfiaaGreatDoor
open Go Go.RowKit Tryst
structure DeadB where
 sub:ByteArray
 e:ByteArray
def DeadB.cells (x:DeadB):List Value:=[.string x.sub,.string x.e]
structure RtB where
 now:Int
 ta:Option Addr
 tl:List TB
 tc:Nat
 la:Option Addr
 ll:List LB
 lc:Nat
 sa:Option Addr
 sl:List SubB
 sc:Nat
 total:Int
 ua:Option Addr
 ul:List UB
 uc:Nat
 ga:Option Addr
 gl:List UB
 gc:Nat
 da:Option Addr
 dl:List DeadB
 dc:Nat
def RtB.cells (r:RtB):List Value:=[.int .i64 r.now,.slice r.ta r.tl.length r.tc,.slice r.la r.ll.length r.lc,.slice r.sa r.sl.length r.sc,.int .i64 r.total,.slice r.ua r.ul.length r.uc,.slice r.ga r.gl.length r.gc,.slice r.da r.dl.length r.dc]
def RtB.agg (r:RtB):Value:=.agg #[.int .i64 r.now,.slice r.ta r.tl.length r.tc,.slice r.la r.ll.length r.lc,.slice r.sa r.sl.length r.sc,.int .i64 r.total,.slice r.ua r.ul.length r.uc,.slice r.ga r.gl.length r.gc,.slice r.da r.dl.length r.dc]
def vJy (l:List TB):Prop:=∀ t∈l,0<=t.first/\t.first<=1000000000000000/\t.log.length<=1500000
def kQJ (r:RtB) (x:SubB):Bool:=decide (0<=x.fails)&&(decide (x.fails < 3)&&(mayD x.d&&(qJb x.ol r.tl&&(qQ2 x&&kQ9 x r.now))))
theorem vQX {x:SubB} (h:qQ2 x=true):0<=x.taken:=by
 unfold qQ2 at h;simp only [Bool.and_eq_true,decide_eq_true_eq] at h;exact h.1
theorem vJQ (r:RtB) (x:SubB) (htl:r.tl.length<=1500000) (ht:vJy r.tl) (w:World) (hM:MaxW w) (hT:Tops w r.ta r.tl) (hO:SubO w x) :
  Calls Tryz.prog 134 #[r.agg,x.agg] w fun e w'=>e=.returned (.bool (kQJ r x))/\Below w.heap.size w w':=by
 have C1:=Zh (fun W (hb:Below w.heap.size w W)=>zJC x.d W (hM.grow hb) (hO.d.grow hb));have C2:=Zh (fun W (hb:Below w.heap.size w W)=>xJG x.oa x.oc x.ol r.ta r.tc r.tl hO.ol hO.os htl ht W (hM.grow hb) (Row.grow hO.o hb) (hT.grow hb));have C3:=Zh (fun W (hb:Below w.heap.size w W)=>kJf x W (hO.grow hb));have C4:=Zh (fun (h:qQ2 x=true) W (hb:Below w.heap.size w W)=>kJk x r.now (vQX h) W (hO.grow hb));clear hM hT hO ht htl;unfold kQJ;generalize mayD x.d=m1 at C1 ⊢;generalize qJb x.ol r.tl=m2 at C2 ⊢;generalize qQ2 x=m3 at C3 C4 ⊢;generalize kQ9 x r.now=m4 at C4 ⊢;obtain ⟨now,ta,tl,tc,la,ll,lc,sa,sl,sc,total,ua,ul,uc,ga2,gl2,gc2,da,dl,dc⟩:=r;obtain ⟨⟨nm,ga,gl,gc,wa,wl,wc,ky,⟨kd,ps,nd,wd⟩⟩,oa,ol,oc,ia,il,ic,fails,taken,passes,fires,over⟩:=x;unfold RtB.agg SubB.agg;unfold SubB.agg at C3 C4;unfold DB.agg at C1;simp only at C1 C2 C3 C4 ⊢;have HS0:=Zh ((Var.new w 28 [.int .i64 now,.slice ta tl.length tc,.slice la ll.length lc,.slice sa sl.length sc,.int .i64 total,.slice ua ul.length uc,.slice ga2 gl2.length gc2,.slice da dl.length dc]).grow (Qj (.cells #[.string nm,.slice ga gl.length gc,.slice wa wl.length wc,.string ky,.string kd,.int .i64 ps,.int .i64 nd,.int .i64 wd,.slice oa ol.length oc,.slice ia il.length ic,.int .i64 fails,.int .i64 taken,.int .i64 passes,.int .i64 fires,.int .i64 over] 68) (.refl _ _)));have HX0:=Zh (Var.new (w.alloc (.cells #[.int .i64 now,.slice ta tl.length tc,.slice la ll.length lc,.slice sa sl.length sc,.int .i64 total,.slice ua ul.length uc,.slice ga2 gl2.length gc2,.slice da dl.length dc] 28)) 68 [.string nm,.slice ga gl.length gc,.slice wa wl.length wc,.string ky,.string kd,.int .i64 ps,.int .i64 nd,.int .i64 wd,.slice oa ol.length oc,.slice ia il.length ic,.int .i64 fails,.int .i64 taken,.int .i64 passes,.int .i64 fires,.int .i64 over]);have HB0:=Zh (Qj (.cells #[.string nm,.slice ga gl.length gc,.slice wa wl.length wc,.string ky,.string kd,.int .i64 ps,.int .i64 nd,.int .i64 wd,.slice oa ol.length oc,.slice ia il.length ic,.int .i64 fails,.int .i64 taken,.int .i64 passes,.int .i64 fires,.int .i64 over] 68) (Qj (.cells #[.int .i64 now,.slice ta tl.length tc,.slice la ll.length lc,.slice sa sl.length sc,.int .i64 total,.slice ua ul.length uc,.slice ga2 gl2.length gc2,.slice da dl.length dc] 28) (.refl w.heap.size w)))
 by_cases h1:0<=fails
 case neg=>
  rw [decide_eq_false h1,Bool.false_and];go_enter Tryz.func134,Tryz.ntmps134;go_upto_region 1 with fail
  revert HS0 HX0 HB0;simp only [List.toArray,World.size_alloc];generalize (w.alloc (.cells _ 28)).alloc (.cells _ 68)=X;intro HS0 HX0 HB0;obtain ⟨s0,s1,s2,s3,s4,s5,s6,s7⟩:=v8 (HS0.out);obtain ⟨x0,x1,x2,x3,x4,x5,x6,x7,x8,x9,x10,x11,x12,x13,x14⟩:=v15 (HX0.out);have hzx:=HX0.out.lt;have hzs:=HS0.out.lt;go_wp2_with fail;go_ret;exact ⟨rfl,HB0.out⟩
 rw [decide_eq_true h1,Bool.true_and]
 by_cases h2:fails < 3
 case neg=>
  rw [decide_eq_false h2,Bool.false_and];go_enter Tryz.func134,Tryz.ntmps134;go_upto_region 1 with fail
  revert HS0 HX0 HB0;simp only [List.toArray,World.size_alloc];generalize (w.alloc (.cells _ 28)).alloc (.cells _ 68)=X;intro HS0 HX0 HB0;obtain ⟨s0,s1,s2,s3,s4,s5,s6,s7⟩:=v8 (HS0.out);obtain ⟨x0,x1,x2,x3,x4,x5,x6,x7,x8,x9,x10,x11,x12,x13,x14⟩:=v15 (HX0.out);have hzx:=HX0.out.lt;have hzs:=HS0.out.lt;go_wp2_with fail;go_ret;exact ⟨rfl,HB0.out⟩
 rw [decide_eq_true h2,Bool.true_and];go_enter Tryz.func134,Tryz.ntmps134;go_upto_region 1 with fail
 revert HS0 HX0 HB0;simp only [List.toArray,World.size_alloc];generalize (w.alloc (.cells _ 28)).alloc (.cells _ 68)=X;intro HS0 HX0 HB0;obtain ⟨s0,s1,s2,s3,s4,s5,s6,s7⟩:=v8 (HS0.out);obtain ⟨x0,x1,x2,x3,x4,x5,x6,x7,x8,x9,x10,x11,x12,x13,x14⟩:=v15 (HX0.out);have hzx:=HX0.out.lt;have hzs:=HS0.out.lt;go_wp2_with fail;refine (C1.out _ HB0.out).mono ?_;rintro e w1 ⟨rfl,hb1⟩;have HB1:=Zh (Qk hb1 HB0.out);have HS1:=Zh (HS0.out.grow hb1);have HX1:=Zh (HX0.out.grow hb1);clear hb1 HB0 HS0 HX0 x0 x1 x2 x3 x4 x5 x6 x7 x8 x9 x10 x11 x12 x13 x14 s0 s1 s2 s3 s4 s5 s6 s7 hzx hzs;obtain ⟨s0,s1,s2,s3,s4,s5,s6,s7⟩:=v8 (HS1.out);obtain ⟨x0,x1,x2,x3,x4,x5,x6,x7,x8,x9,x10,x11,x12,x13,x14⟩:=v15 (HX1.out);have hzx:=HX1.out.lt;have hzs:=HS1.out.lt;cases m1 with
 | false=>
  go_wp2_with fail;go_ret;exact ⟨rfl,HB1.out⟩
 | true=>
  go_wp2_with fail;refine (C2.out _ HB1.out).mono ?_;rintro e w2 ⟨rfl,hb2⟩;have HB2:=Zh (Qk hb2 HB1.out);have HS2:=Zh (HS1.out.grow hb2);have HX2:=Zh (HX1.out.grow hb2);clear hb2 HB1 HS1 HX1 x0 x1 x2 x3 x4 x5 x6 x7 x8 x9 x10 x11 x12 x13 x14 s0 s1 s2 s3 s4 s5 s6 s7 hzx hzs;obtain ⟨s0,s1,s2,s3,s4,s5,s6,s7⟩:=v8 (HS2.out);obtain ⟨x0,x1,x2,x3,x4,x5,x6,x7,x8,x9,x10,x11,x12,x13,x14⟩:=v15 (HX2.out);have hzx:=HX2.out.lt;have hzs:=HS2.out.lt;cases m2 with
  | false=>
   go_wp2_with fail;go_ret;exact ⟨rfl,HB2.out⟩
  | true=>
   go_wp2_with fail;refine (C3.out _ HB2.out).mono ?_;rintro e w3 ⟨rfl,hb3⟩;have HB3:=Zh (Qk hb3 HB2.out);have HS3:=Zh (HS2.out.grow hb3);have HX3:=Zh (HX2.out.grow hb3);clear hb3 HB2 HS2 HX2 x0 x1 x2 x3 x4 x5 x6 x7 x8 x9 x10 x11 x12 x13 x14 s0 s1 s2 s3 s4 s5 s6 s7 hzx hzs;obtain ⟨s0,s1,s2,s3,s4,s5,s6,s7⟩:=v8 (HS3.out);obtain ⟨x0,x1,x2,x3,x4,x5,x6,x7,x8,x9,x10,x11,x12,x13,x14⟩:=v15 (HX3.out);have hzx:=HX3.out.lt;have hzs:=HS3.out.lt;cases m3 with
   | false=>
    go_wp2_with fail;go_ret;exact ⟨rfl,HB3.out⟩
   | true=>
    go_wp2_with fail;refine (C4.out trivial _ HB3.out).mono ?_;rintro e w4 ⟨rfl,hb4⟩;have HB4:=Zh (Qk hb4 HB3.out);have HS4:=Zh (HS3.out.grow hb4);have HX4:=Zh (HX3.out.grow hb4);clear hb4 HB3 HS3 HX3 x0 x1 x2 x3 x4 x5 x6 x7 x8 x9 x10 x11 x12 x13 x14 s0 s1 s2 s3 s4 s5 s6 s7 hzx hzs;obtain ⟨s0,s1,s2,s3,s4,s5,s6,s7⟩:=v8 (HS4.out);obtain ⟨x0,x1,x2,x3,x4,x5,x6,x7,x8,x9,x10,x11,x12,x13,x14⟩:=v15 (HX4.out);have hzx:=HX4.out.lt;have hzs:=HS4.out.lt;cases m4
    all_goals
     go_wp2_with fail;go_ret;exact ⟨rfl,HB4.out⟩
end Go.Proofs.YtcbicdencgjfiaaGreatDoor
namespace Go.Proofs.YtcbicdencgjfiaaGreatDoor
open Go Go.RowKit Tryst
def jQr (r:RtB) (q:Option SubB) (x:SubB):Bool:=kQJ r x&&(match q with | none=>true | some p=>Kf p.d.name x.d.name)
def qQP (r:RtB):Bool:=okK (jQr r) none r.sl&&decide (r.sl.length<=8)
theorem kJr (r:RtB) (htl:r.tl.length<=1500000) (ht:vJy r.tl) (hsl:r.sl.length<=1500000) (w:World) (hM:MaxW w) (hT:Tops w r.ta r.tl) (hO:Subs w r.sa r.sl) :
  Calls Tryz.prog 70 #[r.agg] w fun e w'=>e=.returned (.bool (qQP r))/\Below w.heap.size w w':=by
 obtain ⟨R,hRR⟩:∃ R,okK (jQr r) none r.sl=R:=⟨_,rfl⟩;unfold qQP;rw [hRR];obtain ⟨l,hl⟩:∃ l,r.sl=l:=⟨_,rfl⟩;have hra:r.agg=.agg #[.int .i64 r.now,.slice r.ta r.tl.length r.tc,.slice r.la r.ll.length r.lc,.slice r.sa l.length r.sc,.int .i64 r.total,.slice r.ua r.ul.length r.uc,.slice r.ga r.gl.length r.gc,.slice r.da r.dl.length r.dc]:=by rw [<- hl];rfl
 rw [hl] at hO hsl hRR ⊢;have HF:=Zh (fun W (hb:Below w.heap.size w W)=>hO.grow hb);have HC:=Zh (fun (k:Nat) (hk:k < l.length) W (hb:Below w.heap.size w W)=>vJQ r l[k] htl ht W (hM.grow hb) (hT.grow hb) ((hO.grow hb).mem _ (List.getElem_mem hk)));have HR:Hid (R=okK (jQr r) (Xq l 0) (l.drop 0)):=Zh (by rw [<- hRR];rfl);clear hM hT hO ht htl hRR;rw [hra] at HC ⊢;clear hra hl;generalize r.sa=sa at HF HC ⊢;unfold SubB.agg at HC;obtain ⟨VV,hVV⟩:∃ VV,(R&&decide (l.length<=8))=VV:=⟨_,rfl⟩;rw [hVV];have HVV:=Zh hVV;clear hVV;have HS0:=Zh (Var.new w 28 [.int .i64 r.now,.slice r.ta r.tl.length r.tc,.slice r.la r.ll.length r.lc,.slice sa l.length r.sc,.int .i64 r.total,.slice r.ua r.ul.length r.uc,.slice r.ga r.gl.length r.gc,.slice r.da r.dl.length r.dc]);have HB0:=Zh (Qj (.cells #[.int .i64 r.now,.slice r.ta r.tl.length r.tc,.slice r.la r.ll.length r.lc,.slice sa l.length r.sc,.int .i64 r.total,.slice r.ua r.ul.length r.uc,.slice r.ga r.gl.length r.gc,.slice r.da r.dl.length r.dc] 28) (.refl w.heap.size w));go_enter Tryz.func70,Tryz.ntmps70;go_upto_region 1 with fail
 revert HS0 HB0;simp only [List.toArray];generalize w.alloc (.cells _ 28)=X;intro HS0 HB0;obtain ⟨s0,s1,s2,s3,s4,s5,s6,s7⟩:=v8 (HS0.out);have hzs:=HS0.out.lt
 by_cases h50:l.length<=8
 ·
  have y0:¬ (8:Int) < l.length:=by omega
  go_wp2_with fail;clear s0 s1 s2 s3 s4 s5 s6 s7 hzs;go_loopw [12] (fun i wr=>OkR (jQr r) X l R i wr) (fun i _=>l.length - (intOf i).toNat)
  case atStart=>exact ⟨0,by omega,rfl,HR,Zh (.refl _ _)⟩
  case round=>
   clear HR;obtain ⟨k,hk,rfl,HP,HW⟩:=hrel;obtain ⟨wo,rfl⟩:∃ wo,wo=wr:=⟨_,rfl⟩;have HWW:=Zh (Qk HW.out HB0.out)
   by_cases hlt:k < l.length
   ·
    have hrow:=HF.out wo HWW.out;obtain ⟨b,o,ha,hb⟩:=hrow.head hlt;subst ha;obtain ⟨_,f0,f1,f2,f3,f4,f5,f6,f7,f8,f9,f10,f11,f12,f13,f14⟩:=hrow.at hlt;have HST:Hid (R=(kQJ r l[k]&&(match Xq l k with | none=>true | some p=>Kf p.d.name l[k].d.name)&&okK (jQr r) (Xq l (k+1)) (l.drop (k+1)))):=Zh (HP.out.trans (vQU hlt));have HCC:=Zh (HC.out k hlt);have x1:(k:Int) < l.length:=by omega
    have x2:(0:Int)<=k:=by omega
    generalize kQJ r l[k]=my at HST HCC;have HXV:=Zh (Var.new wo 68 l[k].cells);have HXB:=Zh (Qj (.cells l[k].cells.toArray 68) (.refl wo.heap.size wo));unfold SubB.cells at HXV HXB;clear HP hrow;go_upto_region 6 with fail
    revert HXV HXB;simp only [List.toArray];generalize wo.alloc (.cells _ 68)=Z;intro HXV HXB;have HZW:=Zh (Qk HXB.out HW.out);have HZZ:=Zh (Qk HXB.out HWW.out);have HSZ:=Zh (HS0.out.grow HZW.out);have hzx:=HXV.out.lt;have hzs:=HSZ.out.lt;clear HXB HW HWW f0 f1 f2 f3 f4 f5 f6 f7 f8 f9 f10 f11 f12 f13 f14;generalize wo.heap.size=E at HXV hzx ⊢;obtain ⟨f0,f1,f2,f3,f4,f5,f6,f7,f8,f9,f10,f11,f12,f13,f14⟩:=v15 (HXV.out);obtain ⟨s0,s1,s2,s3,s4,s5,s6,s7⟩:=v8 (HSZ.out);cases my with
    | false=>
     have HN:Hid (R=false):=Zh (by rw [HST.out];rfl);clear HST;refine Tryst2.wp_region_text 22 (by kernel_rfl) (by kernel_rfl) ?_
     iterate 22 ((first | refine Tryst2.TW.skip (by rfl) ?_ | (refine' Tryst2.TW.op _ ?_ (by rfl) ?_;rotate_left;focus (intro w' hg;obtain ⟨hcg,hfg,hsg⟩:=YG hg;first | (go_simp;done) | (go_simp;with_reducible rfl) | (go_simp;go_at_call 134;refine (HCC.out _ (Tryst2.Grow.below hg HZZ.out)).mono ?_;rintro e w5 ⟨rfl,hb5⟩;refine ⟨hb5,?_⟩;with_reducible rfl))));simp only [Act.put,List.setIfInBounds_toArray,List.set_cons_zero,List.set_cons_succ])
     intro w' hg;obtain ⟨hcg,hfg,hsg⟩:=YG hg
     try change wpList _ _ _ [] _ _
     have HB9:=Zh (Tryst2.Grow.below hg HZZ.out);clear hg hcg hfg hsg;go_wp2_with fail;go_ret;exact ⟨Qq (by rw [<- HVV.out,HN.out];rfl),HB9.out⟩
    | true=>
     by_cases hk0:k=0
     ·
      have HN:Hid (R=okK (jQr r) (Xq l (k+1)) (l.drop (k+1))):=Zh (HST.out.trans (by rw [show Xq l k=none by rw [hk0];rfl];simp));have y1:¬ (0:Int) < (k:Int):=by omega
      have y7:¬ 0 < k:=by omega
      clear HST hk0;refine Tryst2.wp_region_text 22 (by kernel_rfl) (by kernel_rfl) ?_
      iterate 22 ((first | refine Tryst2.TW.skip (by rfl) ?_ | (refine' Tryst2.TW.op _ ?_ (by rfl) ?_;rotate_left;focus (intro w' hg;obtain ⟨hcg,hfg,hsg⟩:=YG hg;first | (go_simp;done) | (go_simp;with_reducible rfl) | (go_simp;go_at_call 134;refine (HCC.out _ (Tryst2.Grow.below hg HZZ.out)).mono ?_;rintro e w5 ⟨rfl,hb5⟩;refine ⟨hb5,?_⟩;with_reducible rfl))));simp only [Act.put,List.setIfInBounds_toArray,List.set_cons_zero,List.set_cons_succ])
      intro w' hg;obtain ⟨hcg,hfg,hsg⟩:=YG hg
      try change wpList _ _ _ [] _ _
      have HB9:=Zh (Tryst2.Grow.below hg HZW.out);clear hg hcg hfg hsg;go_wp2_with fail;go_roundw
      case rel=>exact ⟨k+1,by omega,by go_num,HN,HB9⟩
      case measure=>simp [intOf]<;>omega
     ·
      obtain ⟨m,hm⟩:∃ m,k=m+1:=⟨k - 1,by omega⟩;have hlm:m < l.length:=by omega
      obtain ⟨_,p0,_⟩:=(HF.out Z HZZ.out).at hlm;have y1:(0:Int) < (k:Int):=by omega
      have y6:0 < k:=by omega
      have y2:IntKind.i64.wrap ((k:Int) - 1)=(m:Int):=by rw [IntWalk.i64_in _ (by omega)];omega
      have y4:(m:Int) < (l.length:Int):=by omega
      have y5:(0:Int)<=(m:Int):=by omega
      have HS3:Hid (R=(Kf l[m].d.name l[k].d.name&&okK (jQr r) (Xq l (k+1)) (l.drop (k+1)))):=Zh (by
       have:=HST.out;rw [show Xq l k=some l[m] by rw [hm];exact List.getElem?_eq_getElem hlm] at this
       simpa using this)
      clear hm hk0;have HGE:=geB l[m].d.name l[k].d.name;clear HST;generalize Kf l[m].d.name l[k].d.name=lb at HS3 HGE;cases lb with
      | false=>
       have HN:Hid (R=false):=Zh (HS3.out.trans (Bool.false_and _));have hge:(!Op.bytesLess l[m].d.name.toList l[k].d.name.toList)=true:=HGE;clear HGE HS3;refine Tryst2.wp_region_text 22 (by kernel_rfl) (by kernel_rfl) ?_
       iterate 22 ((first | refine Tryst2.TW.skip (by rfl) ?_ | (refine' Tryst2.TW.op _ ?_ (by rfl) ?_;rotate_left;focus (intro w' hg;obtain ⟨hcg,hfg,hsg⟩:=YG hg;first | (go_simp;done) | (go_simp;with_reducible rfl) | (go_simp;go_at_call 134;refine (HCC.out _ (Tryst2.Grow.below hg HZZ.out)).mono ?_;rintro e w5 ⟨rfl,hb5⟩;refine ⟨hb5,?_⟩;with_reducible rfl))));simp only [Act.put,List.setIfInBounds_toArray,List.set_cons_zero,List.set_cons_succ])
       intro w' hg;obtain ⟨hcg,hfg,hsg⟩:=YG hg
       try change wpList _ _ _ [] _ _
       have HB9:=Zh (Tryst2.Grow.below hg HZZ.out);clear hg hcg hfg hsg;go_wp2_with fail;go_ret;exact ⟨Qq (by rw [<- HVV.out,HN.out];rfl),HB9.out⟩
      | true=>
       have HN:Hid (R=okK (jQr r) (Xq l (k+1)) (l.drop (k+1))):=Zh (HS3.out.trans (Bool.true_and _));have hge:(!Op.bytesLess l[m].d.name.toList l[k].d.name.toList)=false:=HGE;clear HGE HS3;refine Tryst2.wp_region_text 22 (by kernel_rfl) (by kernel_rfl) ?_
       iterate 22 ((first | refine Tryst2.TW.skip (by rfl) ?_ | (refine' Tryst2.TW.op _ ?_ (by rfl) ?_;rotate_left;focus (intro w' hg;obtain ⟨hcg,hfg,hsg⟩:=YG hg;first | (go_simp;done) | (go_simp;with_reducible rfl) | (go_simp;go_at_call 134;refine (HCC.out _ (Tryst2.Grow.below hg HZZ.out)).mono ?_;rintro e w5 ⟨rfl,hb5⟩;refine ⟨hb5,?_⟩;with_reducible rfl))));simp only [Act.put,List.setIfInBounds_toArray,List.set_cons_zero,List.set_cons_succ])
       intro w' hg;obtain ⟨hcg,hfg,hsg⟩:=YG hg
       try change wpList _ _ _ [] _ _
       have HB9:=Zh (Tryst2.Grow.below hg HZW.out);clear hg hcg hfg hsg;go_wp2_with fail;go_roundw
       case rel=>exact ⟨k+1,by omega,by go_num,HN,HB9⟩
       case measure=>simp [intOf]<;>omega
   · have HN:=Zh (HP.out.trans (xQJ (by omega:l.length<=k)));go_wp2_with fail;go_ret;exact ⟨Qq (by rw [<- HVV.out,HN.out,decide_eq_true h50];rfl),HWW.out⟩
 ·
  have y0:(8:Int) < l.length:=by omega
  go_wp2_with fail;go_ret;exact ⟨Qq (by rw [<- HVV.out,decide_eq_false h50,Bool.and_false]),HB0.out⟩
end Go.Proofs.YtcbicdencgjfiaaGreatDoor
namespace Go.Proofs.YtcbicdencgjfiaaGreatDoor
open Go Go.RowKit Tryst
def octB (s:ByteArray):Bool:=decide ((qQB s.data.toList).2.2=0)&&decide ((qQB s.data.toList).2.1=s.size)
def qQl (sl:List SubB) (x:DeadB):Bool:=octB x.e&&decide (0<=idxG (fun y:SubB=>y.d.name.toList==x.sub.toList) sl)
theorem kJs (sl:List SubB) (x:DeadB):qQl sl x=(decide ((qQB x.e.data.toList).2.2=0)&&decide ((qQB x.e.data.toList).2.1=x.e.size)&&decide (0<=idxG (fun y:SubB=>y.d.name.toList==x.sub.toList) sl)):=rfl
def zQ6 (r:RtB):Bool:=decide (r.dl.length<=40)&&r.dl.all (qQl r.sl)
structure Deads (w:World) (a:Option Addr) (l:List DeadB):Prop where
 row:Row w a 2 (l.map DeadB.cells)
 s:∀ x∈l,x.sub.size<=1500000/\x.e.size<=1500000
theorem Deads.grow {w W:World} {a:Option Addr} {l:List DeadB} (h:Deads w a l) (hb:Below w.heap.size w W):Deads W a l:=⟨h.row.grow hb,h.s⟩
theorem Deads.at {w:World} {b o:Nat} {l:List DeadB} (h:Deads w (some ⟨b,o,none⟩) l) {i:Nat} (hi:i < l.length):b < w.heap.size/\w.cell? ⟨b,o+i*2,none⟩=some (.string l[i].sub)/\w.cell? ⟨b,o+i*2+1,none⟩=some (.string l[i].e):=by
 obtain ⟨h1,h2⟩:=Row.at h.row (i:=i) (by simpa using hi);simp only [List.getElem_map] at h2;exact ⟨h1,h2 0 (by omega),h2 1 (by omega)⟩
theorem Deads.head {w:World} {a:Option Addr} {l:List DeadB} (h:Deads w a l) {i:Nat} (hi:i < l.length):∃ b o,a=some ⟨b,o,none⟩/\b < w.heap.size:=Row.head h.row (by simpa using hi)
theorem kJh (r:RtB) (hsl:r.sl.length<=1500000) (hdl:r.dl.length<=1500000) (w:World) (hM:MaxW w) (hS:Subs w r.sa r.sl) (hD:Deads w r.da r.dl) :
  Calls Tryz.prog 72 #[r.agg] w fun e w'=>e=.returned (.bool (zQ6 r))/\Below w.heap.size w w':=by
 obtain ⟨R,hRR⟩:∃ R,r.dl.all (qQl r.sl)=R:=⟨_,rfl⟩;unfold zQ6;rw [hRR];obtain ⟨l,hl⟩:∃ l,r.dl=l:=⟨_,rfl⟩;have hra:r.agg=.agg #[.int .i64 r.now,.slice r.ta r.tl.length r.tc,.slice r.la r.ll.length r.lc,.slice r.sa r.sl.length r.sc,.int .i64 r.total,.slice r.ua r.ul.length r.uc,.slice r.ga r.gl.length r.gc,.slice r.da l.length r.dc]:=by rw [<- hl];rfl
 rw [hl] at hD hdl hRR ⊢;have HF:=Zh (fun W (hb:Below w.heap.size w W)=>hD.grow hb);have CE:=Zh (fun (k:Nat) (hk:k < l.length) W (hb:Below w.heap.size w W)=>kJ3 l[k].e (by have:=(hD.s _ (List.getElem_mem hk)).2;omega) W (hM.grow hb));have CP:=Zh (fun (k:Nat) (hk:k < l.length) W (hb:Below w.heap.size w W)=>zJi r.sa r.sc r.sl l[k].sub hsl W (hS.grow hb));have HR:Hid (R=(l.drop 0).all (qQl r.sl)):=Zh (by rw [<- hRR];rfl);clear hM hS hD hRR;rw [hra];clear hra hl;generalize r.da=da at HF ⊢;obtain ⟨VV,hVV⟩:∃ VV,(decide (l.length<=40)&&R)=VV:=⟨_,rfl⟩;rw [hVV];have HVV:=Zh hVV;clear hVV;have HS0:=Zh (Var.new w 28 [.int .i64 r.now,.slice r.ta r.tl.length r.tc,.slice r.la r.ll.length r.lc,.slice r.sa r.sl.length r.sc,.int .i64 r.total,.slice r.ua r.ul.length r.uc,.slice r.ga r.gl.length r.gc,.slice da l.length r.dc]);have HB0:=Zh (Qj (.cells #[.int .i64 r.now,.slice r.ta r.tl.length r.tc,.slice r.la r.ll.length r.lc,.slice r.sa r.sl.length r.sc,.int .i64 r.total,.slice r.ua r.ul.length r.uc,.slice r.ga r.gl.length r.gc,.slice da l.length r.dc] 28) (.refl w.heap.size w));go_enter Tryz.func72,Tryz.ntmps72;go_upto_region 1 with fail
 revert HS0 HB0;simp only [List.toArray];generalize w.alloc (.cells _ 28)=X;intro HS0 HB0;obtain ⟨s0,s1,s2,s3,s4,s5,s6,s7⟩:=v8 (HS0.out);have hzs:=HS0.out.lt
 by_cases h50:l.length<=40
 ·
  have y0:¬ (40:Int) < l.length:=by omega
  go_wp2_with fail;clear s0 s1 s2 s3 s4 s5 s6 s7 hzs;go_loopw [15] (fun i wr=>AlH (qQl r.sl) X l R i wr) (fun i _=>l.length - (intOf i).toNat)
  case atStart=>exact ⟨0,by omega,rfl,HR,Zh (.refl _ _)⟩
  case round=>
   clear HR;obtain ⟨k,hk,rfl,HP,HW⟩:=hrel;obtain ⟨wo,rfl⟩:∃ wo,wo=wr:=⟨_,rfl⟩;have HWW:=Zh (Qk HW.out HB0.out)
   by_cases hlt:k < l.length
   ·
    have hrow:=HF.out wo HWW.out;obtain ⟨b,o,ha,hb⟩:=hrow.head hlt;subst ha;obtain ⟨_,f0,f1⟩:=hrow.at hlt;have HST:Hid (R=(qQl r.sl l[k]&&(l.drop (k+1)).all (qQl r.sl))):=Zh (HP.out.trans (kQy hlt));have DE:=Zh (CE.out k hlt);have DP:=Zh (CP.out k hlt);have x1:(k:Int) < l.length:=by omega
    have x2:(0:Int)<=k:=by omega
    obtain ⟨R3,hR3⟩:∃ R3,(l.drop (k+1)).all (qQl r.sl)=R3:=⟨_,rfl⟩;have HR3:=Zh hR3;rw [hR3,kJs] at HST;generalize idxG (fun y:SubB=>y.d.name.toList==l[k].sub.toList) r.sl=pl at HST DP;generalize qQB l[k].e.data.toList=rr at DE HST;clear hR3 HP hrow;obtain ⟨ev,n,ee⟩:=rr;simp only at DE HST;have HXV:=Zh (Var.new wo 74 [.string l[k].sub,.string l[k].e]);have HXB:=Zh (Qj (.cells #[.string l[k].sub,.string l[k].e] 74) (.refl wo.heap.size wo));go_upto_region 6 with fail
    revert HXV HXB;simp only [List.toArray];generalize wo.alloc (.cells _ 74)=Z;intro HXV HXB;have HZW:=Zh (Qk HXB.out HW.out);have HZZ:=Zh (Qk HXB.out HWW.out);clear HXB HW HWW f0 f1;have hzx:=HXV.out.lt;generalize wo.heap.size=E at HXV hzx ⊢;obtain ⟨f0,f1⟩:=v2 (HXV.out);go_wp2_with fail;refine (DE.out _ HZZ.out).mono ?_;rintro e w2 ⟨ea,ec,rfl,_,_,hb2⟩;have HZW2:=Zh (Qk hb2 HZW.out);have HZZ2:=Zh (Qk hb2 HZZ.out);have HXV2:=Zh (HXV.out.grow hb2);clear hb2 f0 f1 hzx HXV HZW HZZ DE;obtain ⟨T,hT⟩:∃ T:ByteArray,(⟨ev.topic.toArray⟩:ByteArray)=T:=⟨_,rfl⟩;obtain ⟨P,hP⟩:∃ P:ByteArray,(⟨ev.prod.toArray⟩:ByteArray)=P:=⟨_,rfl⟩;rw [hT,hP];clear hT hP;have HEV:=Zh (Qj (.cells #[.string T,.string P,.int .u64 ev.seq,.slice ea ev.l.length ec] 94) (.refl w2.heap.size w2));have HZW3:=Zh (Qk HEV.out HZW2.out);have HZZ3:=Zh (Qk HEV.out HZZ2.out);have HXV3:=Zh (HXV2.out.grow HEV.out);generalize ev.l.length=en at HEV HZW3 HZZ3 HXV3 ⊢;generalize ev.seq=es at HEV HZW3 HZZ3 HXV3 ⊢;go_upto_region 7 with fail
    revert HZW3 HZZ3 HXV3;clear HEV HZW2 HZZ2 HXV2;simp only [List.toArray];generalize w2.alloc (.cells _ 94)=Y;intro HZW3 HZZ3 HXV3;have HSY:=Zh (HS0.out.grow HZW3.out);obtain ⟨f0,f1⟩:=v2 (HXV3.out);obtain ⟨s0,s1,s2,s3,s4,s5,s6,s7⟩:=v8 (HSY.out);have hzx:=HXV3.out.lt;have hzs:=HSY.out.lt
    by_cases g1:ee=0
    case neg=>
     have HN:Hid (R=false):=Zh (by rw [HST.out,decide_eq_false g1];rfl);have z1:((ee:Int)==0)=false:=beq_false_of_ne (by omega);go_wp2_with fail;go_ret;exact ⟨Qq (by rw [<- HVV.out,HN.out,Bool.and_false]),HZZ3.out⟩
    subst g1
    by_cases g2:n=l[k].e.size
    case neg=>
     have HN:Hid (R=false):=Zh (by rw [HST.out,decide_eq_false g2];simp);have z2:((n:Int)==(l[k].e.size:Int))=false:=beq_false_of_ne (by omega);go_wp2_with fail;go_ret;exact ⟨Qq (by rw [<- HVV.out,HN.out,Bool.and_false]),HZZ3.out⟩
    subst g2;have HST2:Hid (R=(decide (0<=pl)&&R3)):=Zh (by rw [HST.out];simp);clear HST;go_wp2_with fail;refine (DP.out _ HZZ3.out).mono ?_;rintro e w5 ⟨rfl,hb5⟩;have HW5:=Zh (Qk hb5 HZW3.out);have HWW5:=Zh (Qk hb5 HZZ3.out);clear hb5 f0 f1 s0 s1 s2 s3 s4 s5 s6 s7 hzx hzs HXV3 HSY HZW3 HZZ3 DP
    by_cases g3:0<=pl
    ·
     have HN:Hid (R=(l.drop (k+1)).all (qQl r.sl)):=Zh (by rw [HST2.out,decide_eq_true g3,HR3.out];rfl);have z3:¬ pl < 0:=by omega
     go_wp2_with fail;go_roundw
     case rel=>exact ⟨k+1,by omega,by go_num,HN,HW5⟩
     case measure=>simp [intOf]<;>omega
    ·
     have HN:Hid (R=false):=Zh (by rw [HST2.out,decide_eq_false g3];rfl);have z3:pl < 0:=by omega
     go_wp2_with fail;go_ret;exact ⟨Qq (by rw [<- HVV.out,HN.out,Bool.and_false]),HWW5.out⟩
   · have HN:Hid (R=true):=Zh (HP.out.trans (zQp (by omega:l.length<=k)));go_wp2_with fail;go_ret;exact ⟨Qq (by rw [<- HVV.out,HN.out,decide_eq_true h50];rfl),HWW.out⟩
 ·
  have y0:(40:Int) < l.length:=by omega
  go_wp2_with fail;go_ret;exact ⟨Qq (by rw [<- HVV.out,decide_eq_false h50,Bool.false_and]),HB0.out⟩
