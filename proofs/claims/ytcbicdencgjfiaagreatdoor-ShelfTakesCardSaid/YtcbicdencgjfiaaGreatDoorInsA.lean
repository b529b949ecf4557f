import Derived.Deep.CutRange
import Derived.Test.YtcbicdencgjfiaaGreatDoorMeetB
set_option linter.all false
set_option maxHeartbeats 4000000
set_option maxRecDepth 20000
namespace Tryst
open Go Go.RowKit
def newK (l:List KpB) (i:Nat):Bool:=match l[i]? with | some x=>!((l.take i).any (fun y=>decide (y.part=x.part))) | none=>false
def Jw (l:List KpB) (k:Nat):List Nat:=(List.range k).filter (newK l)
theorem kQv (l:List KpB) (k:Nat):Jw l (k+1)=Jw l k++(if newK l k=true then [k] else []):=by
 unfold Jw;rw [List.range_succ,List.filter_append]
 congr 1
 by_cases h:newK l k=true
 · rw [if_pos h];simp [h]
 · rw [if_neg h];simp [h]
theorem qJ8 (l:List KpB) (k:Nat):(Jw l k).length<=k:=by
 unfold Jw;have:=List.length_filter_le (newK l) (List.range k)
 rwa [List.length_range] at this
def metK (l:List KpB) (k:Nat) (p:Nat):Bool:=(l.take k).any (fun y=>decide (y.part=(p:Int)))
theorem xQ7 {l:List KpB} {k:Nat} (hk:k < l.length) (p:Nat):metK l (k+1) p=(metK l k p||decide (l[k].part=(p:Int))):=by
 unfold metK;rw [List.take_succ_eq_append_getElem hk,List.any_append];simp
theorem zJy {l:List KpB} {k:Nat} (hk:k < l.length) {p:Nat} (h:l[k].part=(p:Int)):newK l k=!(metK l k p):=by
 unfold newK metK;rw [List.getElem?_eq_getElem hk];simp only [h]
def qQw (j:JB) (l:List KpB):List Nat:=
 if j.kind=⟨#[97,108,108]⟩ then (if ((Jw l l.length).length:Int) < j.parts then [] else Jw l l.length)
 else if j.kind=⟨#[97,110,121]⟩ then (if 1<=l.length then List.range 1 else [])
 else if j.kind=⟨#[99,111,117,110,116]⟩ then (if j.need<=l.length then List.range j.need.toNat else [])
 else []
end Tryst
namespace Go.Proofs.YtcbicdencgjfiaaGreatDoor
open Go.RowKit Tryst
theorem intT:SliceOf Tryz.prog 308 3 1 8:=.mk' Tryz.underlying308 (z:=.int .i64 0) (by kernel_rfl) rfl (by decide) (by decide)
def M1R (w:World) (l:List KpB) (h:Nat) (s i:Value) (wr:World):Prop:=∃ k:Nat,k<=l.length/\i=.int .i64 k/\Hid (ROwn 3 1 wr (h+1) s ((Jw l k).map natC))/\Hid (∀ p,p < 6->wr.cell? ⟨h,p,none⟩=some (.bool (metK l k p)))/\Hid (∀ p,p < 6->wr.frozen? ⟨h,p,none⟩=false)/\Hid (Below w.heap.size w wr)/\h < wr.heap.size
theorem jJ8 (b1 o1 b2 o2:Nat) (a:Option Addr) (c:Nat) (l:List KpB) (ps:Int) (hl:l.length<=1500000) (hp:∀ x∈l,0<=x.part/\x.part < 6) (w:World) (hR:Xg w a l) (hc:w.cell? ⟨b1,o1,none⟩=some (.slice a l.length c)) (hj:w.cell? ⟨b2,o2+1,none⟩=some (.int .i64 ps)) (hb1:b1 < w.heap.size) (hb2:b2 < w.heap.size) :
  Calls Tryz.prog 255 #[.pointer (some ⟨b1,o1,none⟩),.pointer (some ⟨b2,o2,none⟩)] w fun e w'=>jQh w (if ((Jw l l.length).length:Int) < ps then [] else Jw l l.length) e w':=by
 have HF:=Zh (fun W (hb:Below w.heap.size w W)=>KpR.mk (hR.grow hb));obtain ⟨R,hRes⟩:∃ R,(if ((Jw l l.length).length:Int) < ps then [] else Jw l l.length)=R:=⟨_,rfl⟩;rw [hRes];have HRes:=Zh hRes;clear hRes;go_enter Tryz.func255,Tryz.ntmps255;have HB0:=Zh (Qj (.cells #[.bool false,.bool false,.bool false,.bool false,.bool false,.bool false] 320) (.refl w.heap.size w));go_wp2_with fail;go_loopw [4,9] (fun s i wr=>M1R w l w.heap.size s i wr) (fun _ i _=>l.length - (intOf i).toNat)
 case atStart=>
  refine ⟨0,by omega,rfl,Zh (ROwn.nil _ _ _ _),Zh (fun p hp=>?_),Zh (fun p hp=>by simp),HB0,by simp⟩;have:p=0∨p=1∨p=2∨p=3∨p=4∨p=5:=by omega
  rcases this with rfl | rfl | rfl | rfl | rfl | rfl<;>(rw [World.cell?_alloc_new];rfl)
 case round=>
  clear HB0;obtain ⟨k,hk,rfl,HO,HC,HZ,HW,hz⟩:=hrel;obtain ⟨wo,rfl⟩:∃ wo,wo=wr:=⟨_,rfl⟩;have HLN:Hid (((Jw l k).map natC).length=(Jw l k).length):=Zh (List.length_map ..);have hfl:=qJ8 l k
  by_cases hlt:k < l.length
  ·
   obtain ⟨b,o,ha,hb⟩:=(HF.out wo HW.out).head hlt;subst ha;obtain ⟨_,f0,f1,f2⟩:=(HF.out wo HW.out).r.at hlt;obtain ⟨p0,p6⟩:=hp _ (List.getElem_mem hlt);obtain ⟨p,hpp⟩:∃ p:Nat,l[k].part=(p:Int):=⟨l[k].part.toNat,by omega⟩;have hp6:p < 6:=by omega
   have HNW:=Zh (zJy hlt hpp);have c0:=HC.out p hp6;have z0:=HZ.out p hp6;rw [hpp] at f0;have x1:(k:Int) < l.length:=by omega
   have x2:(0:Int)<=k:=by omega
   have x3:(p:Int) < 6:=by omega
   have x4:(0:Int)<=p:=by omega
   obtain ⟨mk,hmk⟩:∃ mk,metK l k p=mk:=⟨_,rfl⟩;rw [hmk] at c0 HNW;have HMK:=Zh hmk;have HPP:=Zh hpp;clear hmk hpp p0 p6;have HBX:=Zh (Qk (Qj (.cells #[.int .i64 (p:Int),.int .u64 l[k].id,.int .i64 l[k].time] 155) (.refl wo.heap.size wo)) HW.out);cases mk with
   | true=>
    have HFS:Hid (Jw l (k+1)=Jw l k):=Zh (by rw [kQv,HNW.out];simp)
    have HMS:Hid (∀ q,metK l (k+1) q=metK l k q):=Zh (fun q=>by
     rw [xQ7 hlt,HPP.out]
     by_cases e:p=q
     · subst e;rw [HMK.out];rfl
     · rw [decide_eq_false (by omega),Bool.or_false])
    have HO2:Hid (ROwn 3 1 (wo.alloc (.cells #[.int .i64 (p:Int),.int .u64 l[k].id,.int .i64 l[k].time] 155)) (w.heap.size+1) u4 ((Jw l (k+1)).map natC)):=Zh (by rw [HFS.out];exact HO.out.grow (Qj _ (.refl _ _)));have HC2:Hid (∀ q,q < 6->(wo.alloc (.cells #[.int .i64 (p:Int),.int .u64 l[k].id,.int .i64 l[k].time] 155)).cell? ⟨w.heap.size,q,none⟩=some (.bool (metK l (k+1) q))):=Zh (fun q hq=>by rw [HMS.out,(Qj _ (.refl wo.heap.size wo)).cell (p:=⟨w.heap.size,q,none⟩) hz];exact HC.out q hq);have HZ2:Hid (∀ q,q < 6->(wo.alloc (.cells #[.int .i64 (p:Int),.int .u64 l[k].id,.int .i64 l[k].time] 155)).frozen? ⟨w.heap.size,q,none⟩=false):=Zh (fun q hq=>by rw [(Qj _ (.refl wo.heap.size wo)).frozen (p:=⟨w.heap.size,q,none⟩) hz];exact HZ.out q hq);clear HO HC HZ HFS HMS;go_wp2_with fail;go_roundw
    case rel=>exact ⟨k+1,by omega,by go_num,HO2,HC2,HZ2,HBX,by simp;omega⟩
    case measure=>simp [intOf]<;>omega
   | false=>
    have HFS:Hid ((Jw l (k+1)).map natC=(Jw l k).map natC++[natC k]):=Zh (by rw [kQv,HNW.out];simp);have HA1:=Zh (fun (x y:Obj)=>((HO.out.below (o:=p) (by omega:w.heap.size < w.heap.size+1) (.bool true)).alloc x).alloc y);go_wp2_with (at_builtin;refine Kq intT rfl _ _ rfl (w.heap.size+1) u4 ((Jw l k).map natC) (Jw l k).length HLN.out rfl (HA1.out _ _) (natC k) rfl ?h1 _ rfl ?hf (by omega) ?hz ?hk)
    case h1=>intro u hu;simp [natC] at hu;subst hu;rfl
    case hf=>
     intro j hj;obtain rfl:j=0:=by omega
     simp [go_sem,natC]
    case hz=>simp;omega
    case hk=>
     intro v' w1 ho hb1' _;have HO3:Hid (ROwn 3 1 w1 (w.heap.size+1) v' ((Jw l (k+1)).map natC)):=Zh (by rw [HFS.out];exact ho);have HB1:=Zh hb1';clear ho hb1' HA1 HO HFS;go_wp2_with fail;go_roundw
     case rel=>
      have hmt:∀ q,metK l (k+1) q=(metK l k q||decide (p=q)):=fun q=>by
       rw [xQ7 hlt,HPP.out]
       congr 1
       by_cases e:p=q
       · rw [decide_eq_true e,decide_eq_true (by omega)]
       · rw [decide_eq_false e,decide_eq_false (by omega)]
      refine ⟨k+1,by omega,by go_num,HO3,Zh (fun q hq=>?_),Zh (fun q hq=>?_),Zh ?_,?_⟩
      ·
       rw [HB1.out.cell (p:=⟨w.heap.size,q,none⟩) (by show w.heap.size < w.heap.size+1;omega),hmt];have:=HC.out q hq
       by_cases e:p=q
       · subst e;simp [Qz,go_sem,c0,hz]
       · simp [Qz,go_sem,this,e,hz]
      · rw [HB1.out.frozen (p:=⟨w.heap.size,q,none⟩) (by show w.heap.size < w.heap.size+1;omega)];have:=HZ.out q hq;simp [Qv,go_sem,this,hz]
      · have h1:=bset (.bool true) (p:=⟨w.heap.size,p,none⟩) (Nat.le_refl _) HW.out;have h2:=Qj (.cells #[.int .i64 (p:Int),.int .u64 l[k].id,.int .i64 l[k].time] 155) h1;have h3:=Qj (.cells #[.int .i64 (k:Int)] 3) h2;exact h3.trans (HB1.out.mono (by omega))
      · have:=HB1.out.size;simp at this;omega
     case measure=>simp [intOf]<;>omega
  ·
   have hkl:k=l.length:=by omega
   obtain ⟨a4,c4,hv4,hr4,_,_⟩:=HO.out.row (fun x hx=>by obtain ⟨i,_,rfl⟩:=List.mem_map.1 hx;rfl) (by decide);rw [HLN.out] at hv4;subst hv4;rw [hkl] at hfl;have HRR:Hid (Row wo a4 1 ((Jw l l.length).map natC)):=Zh (by rw [<- hkl];exact hr4);have j0:wo.cell? ⟨b2,o2+1,none⟩=some (.int .i64 ps):=(HW.out.cell (p:=⟨b2,o2+1,none⟩) hb2).trans hj;clear hr4 HO HC HZ HLN hc hj;obtain ⟨F,hF⟩:∃ F,Jw l l.length=F:=⟨_,rfl⟩;have hlk:(Jw l k).length=F.length:=by rw [hkl,hF]
   rw [hF] at hfl HRR;rw [hlk];have HFE:=Zh hF;have x0:¬ ((k:Int) < l.length):=by omega
   clear hF hlk
   by_cases hps:(F.length:Int) < ps
   · go_wp2_with fail;go_ret;rw [show R=[] by rw [<- HRes.out,HFE.out,if_pos hps]];exact ⟨none,0,rfl,Row.nil _ _ _,HW.out⟩
   · go_wp2_with fail;go_ret;rw [show R=F by rw [<- HRes.out,HFE.out,if_neg (by omega)]];exact ⟨a4,c4,rfl,HRR.out,HW.out⟩
end Go.Proofs.YtcbicdencgjfiaaGreatDoor
namespace Go.Proofs.YtcbicdencgjfiaaGreatDoor
open Go.RowKit Tryst Go.Maps
theorem qJh (j:JB) (hj:mayJ j=true) (a:Option Addr) (c:Nat) (l:List KpB) (hl:l.length<=1500000) (hp:∀ x∈l,0<=x.part/\x.part < 6) (w:World) (hR:Xg w a l):Calls Tryz.prog 243 #[.agg #[.string j.kind,.int .i64 j.parts,.int .i64 j.need,.int .i64 j.window],.slice a l.length c] w (jQh w (qQw j l)):=by
 have H3:(j.kind=⟨#[97,108,108]⟩∨j.kind=⟨#[97,110,121]⟩∨j.kind=⟨#[99,111,117,110,116]⟩/\1<=j.need/\j.need<=30):=by
  unfold mayJ at hj;simp only [Bool.and_eq_true,decide_eq_true_eq] at hj;obtain ⟨_,_,_,_,h4⟩:=hj
  by_cases h1:j.kind=⟨#[97,108,108]⟩
  · exact .inl h1
  ·
   by_cases h2:j.kind=⟨#[97,110,121]⟩
   · exact .inr (.inl h2)
   ·
    rw [if_neg (by simp [h1,h2])] at h4
    by_cases h5:j.kind=⟨#[99,111,117,110,116]⟩
    · rw [if_pos h5] at h4;simp only [Bool.and_eq_true,decide_eq_true_eq] at h4;exact .inr (.inr ⟨h5,h4.1,h4.2⟩)
    · rw [if_neg h5] at h4;cases h4
 clear hj;have HRR:=Zh (fun W (hb:Below w.heap.size w W)=>KpR.mk (hR.grow hb));clear hR;obtain ⟨P,hP⟩:∃ P,qQw j l=P:=⟨_,rfl⟩;rw [hP];have HP:=Zh hP;clear hP;have hmm:=@run_makeMap Tryz.prog;have hmf:∀ (fn:Fn) (first cap:Array Value) (w:World),(Instr.makeFunc fn first cap).run Tryz.prog w=.ok (.func fn first cap) w:=fun _ _ _ _=>rfl
 have m0:=Zh (MapS.made Tryz.prog 9 ((w.alloc (.cells #[.string j.kind,.int .i64 j.parts,.int .i64 j.need,.int .i64 j.window] 43)).alloc (.cells #[.slice a l.length c] 128)) .nilFunc);have HMJ:Hid (MJ w ((w.alloc (.cells #[.string j.kind,.int .i64 j.parts,.int .i64 j.need,.int .i64 j.window] 43)).alloc (.cells #[.slice a l.length c] 128)) j (.slice a l.length c)):=Zh ⟨by simp [go_sem],by simp [go_sem],by simp [go_sem],by simp [go_sem],Qj _ (Qj _ (.refl _ _)),by simp⟩;go_enter Tryz.func243,Tryz.ntmps243;go_upto_region 1 with fail
 revert m0 HMJ;generalize hX:(w.alloc (.cells #[.string j.kind,.int .i64 j.parts,.int .i64 j.need,.int .i64 j.window] 43)).alloc (.cells #[.slice a l.length c] 128)=X;have hXz:X.heap.size=w.heap.size+2:=by rw [<- hX];simp
 clear hX;intro m0 HMJ;obtain ⟨mb,hmb⟩:∃ mb,X.heap.size=mb:=⟨_,rfl⟩;have hmw:w.heap.size+2<=mb:=by omega
 have m1:=m0.out;rw [hmb] at m1;have HM1:Hid (MJ w (X.alloc (.map #[] 0)) j (.slice a l.length c)):=Zh (HMJ.out.grow (Qj _ (.refl _ _)));clear m0 HMJ hXz;go_upto_region 2 with ((try simp only [hmb]);refine jJS rfl _ _ _ rfl (by assumption) Tryz.underlying9 Tryz.underlying323 (by unfold maxLen;omega) rfl (s:=_) (by unfold maxLen;decide) rfl rfl ?_;intro w' hm' hg';have hab':=MJ.turn (by assumption) hg' hmw;have c0':=hab'.out.c0)
 have hz0:∀ v:World,(zeroValue 321).run Tryz.prog v=.ok .nilFunc v:=fun v=>by kernel_rfl
 rename_i w8 hmL hgL;obtain ⟨kd,ps,nd,wd⟩:=j;simp only at H3 c0' ⊢;have hM:=hab'.out;obtain ⟨d0,d1,d2,d3,dk,dz⟩:=hM;simp only at d0 d1 d2 d3
 rcases H3 with rfl | rfl | ⟨rfl,hn1,hn2⟩
 · have HM:=Zh (jJ8 (w.heap.size+1) 0 w.heap.size 0 a c l ps hl hp w' (HRR.out _ dk).r d3 d1 (by omega) (by omega));rw [show (if ((Jw l l.length).length:Int) < ps then [] else Jw l l.length)=P by rw [<- HP.out];exact (if_pos rfl).symm] at HM;go_wp2_with (refine jQe rfl _ _ rfl hm' Tryz.underlying9 Tryz.underlying323 (hz0 _) rfl (s:=⟨#[97,108,108]⟩) (by unfold maxLen;decide) rfl (v:=.func (.func 255) #[] #[.pointer (some ⟨w.heap.size+1,0,none⟩),.pointer (some ⟨w.heap.size,0,none⟩)]) (by rfl) ?_);refine HM.out.mono ?_;intro e w9 h9;have H9:=Zh (jQh.grow dk h9);obtain ⟨a9,c9,rfl,_,_⟩:=h9;clear HM;go_wp2_with fail;go_ret;exact H9.out
 ·
  have HM:=Zh (vJD (w.heap.size+1) 0 a c l.length hl w' d3)
  rw [show (if 1<=l.length then List.range 1 else [])=P by
   rw [<- HP.out];unfold qQw;rw [if_neg (show ¬ (⟨#[97,110,121]⟩:ByteArray)=⟨#[97,108,108]⟩ by decide),if_pos rfl]] at HM
  go_wp2_with (refine jQe rfl _ _ rfl hm' Tryz.underlying9 Tryz.underlying323 (hz0 _) rfl (s:=⟨#[97,110,121]⟩) (by unfold maxLen;decide) rfl (v:=.func (.func 256) #[] #[.pointer (some ⟨w.heap.size+1,0,none⟩)]) (by rfl) ?_);refine HM.out.mono ?_;intro e w9 h9;have H9:=Zh (jQh.grow dk h9);obtain ⟨a9,c9,rfl,_,_⟩:=h9;clear HM;go_wp2_with fail;go_ret;exact H9.out
 ·
  obtain ⟨n,rfl⟩:∃ n:Nat,nd=(n:Int):=⟨nd.toNat,by omega⟩;have HM:=Zh (vJA w.heap.size 0 (w.heap.size+1) 0 a c l.length n hl (by omega) w' d3 d2)
  rw [show (if n<=l.length then List.range n else [])=P by
   rw [<- HP.out];unfold qQw;simp only [Int.toNat_natCast];rw [if_neg (show ¬ (⟨#[99,111,117,110,116]⟩:ByteArray)=⟨#[97,108,108]⟩ by decide),if_neg (show ¬ (⟨#[99,111,117,110,116]⟩:ByteArray)=⟨#[97,110,121]⟩ by decide),if_pos trivial]
   by_cases h:n<=l.length
   · rw [if_pos h,if_pos (by omega)]
   · rw [if_neg h,if_neg (by omega)]] at HM
  go_wp2_with (refine jQe rfl _ _ rfl hm' Tryz.underlying9 Tryz.underlying323 (hz0 _) rfl (s:=⟨#[99,111,117,110,116]⟩) (by unfold maxLen;decide) rfl (v:=.func (.func 258) #[] #[.pointer (some ⟨w.heap.size,0,none⟩),.pointer (some ⟨w.heap.size+1,0,none⟩)]) (by rfl) ?_);refine HM.out.mono ?_;intro e w9 h9;have H9:=Zh (jQh.grow dk h9);obtain ⟨a9,c9,rfl,_,_⟩:=h9;clear HM;go_wp2_with fail;go_ret;exact H9.out
end Go.Proofs.YtcbicdencgjfiaaGreatDoor
namespace Tryst
open Go Go.RowKit
def okH {α:Type} (f:List α->α->Bool):List α->List α->Bool
 | _,[]=>true
 | p,x :: t=>f p x&&okH f (p++[x]) t
theorem kQl {α:Type} {f:List α->α->Bool} {l:List α} {k:Nat} (h:k < l.length):okH f (l.take k) (l.drop k)=(f (l.take k) l[k]&&okH f (l.take (k+1)) (l.drop (k+1))):=by
 rw [List.drop_eq_getElem_cons h,okH,List.take_succ_eq_append_getElem h]
theorem zQj {α:Type} {f:List α->α->Bool} {l:List α} {k:Nat} (h:l.length<=k):okH f (l.take k) (l.drop k)=true:=by
 rw [List.drop_eq_nil_of_le h];rfl
def OkH {α:Type} (f:List α->α->Bool) (w:World) (l:List α) (R:Bool) (i:Value) (wr:World):Prop:=∃ k:Nat,k<=l.length/\i=.int .i64 k/\Hid (R=okH f (l.take k) (l.drop k))/\Hid (Below w.heap.size w wr)
def kQB (parts:Int) (p:List KpB) (x:KpB):Bool:=xQw parts x&&(!(vQ5 p x.time)&&!(p.any (fun y=>(y.id:Int)==(x.id:Int))))
theorem xQG {α:Type} {f:List α->α->Bool} {P:α->Prop} (hf:∀ p x,f p x=true->P x):∀ (l p:List α),okH f p l=true->∀ x∈l,P x
 | [],_,_,x,hx=>by cases hx
 | y :: l,p,h,x,hx=>by
  unfold okH at h;rw [Bool.and_eq_true] at h
  rcases List.mem_cons.1 hx with rfl | hx
  · exact hf _ _ h.1
  · exact xQG hf l _ h.2 x hx
def qQg (j:JB) (l:List KpB):Bool:=mayJ j&&(decide (l.length < 30)&&(okH (kQB j.parts) [] l&&decide ((qQw j l).length=0)))
theorem Xg.takeK {w:World} {a:Option Addr} {l:List KpB} (h:Xg w a l) (k:Nat):Xg w a (l.take k):=by
 have:=Row.take h k
 rwa [<- List.map_take] at this
theorem kJH {parts:Int} (h6:parts<=6) (p:List KpB) (x:KpB) (h:kQB parts p x=true):0<=x.part/\x.part < 6:=by
 unfold kQB xQw at h;simp only [Bool.and_eq_true,decide_eq_true_eq] at h;omega
theorem qJ6 {j:JB} (h:mayJ j=true):j.parts<=6:=by
 unfold mayJ at h;simp only [Bool.and_eq_true,decide_eq_true_eq] at h;exact h.2.1
end Tryst
namespace Go.Proofs.YtcbicdencgjfiaaGreatDoor
open Go.RowKit Tryst
theorem jJJ (j:JB) (a:Option Addr) (c:Nat) (l:List KpB) (hl:l.length<=1500000) (hc:l.length<=c) (w:World) (hR:Xg w a l) :
  Calls Tryz.prog 229 #[.agg #[.string j.kind,.int .i64 j.parts,.int .i64 j.need,.int .i64 j.window],.slice a l.length c] w fun e w'=>e=.returned (.int .i64 (errO (qQg j l)))/\Below w.heap.size w w':=by
 have HF:=Zh (fun W (hb:Below w.heap.size w W)=>KpR.mk (hR.grow hb));have CJ:=Zh (fun W=>jJj j W);have CM:=Zh (fun (hm:mayJ j=true) (ho:okH (kQB j.parts) [] l=true) W (hb:Below w.heap.size w W)=>qJh j hm a c l hl (xQG (fun p x=>kJH (qJ6 hm) p x) l [] ho) W (hR.grow hb));have C1:=Zh (fun (k:Nat) (hk:k < l.length) W=>jYZ j l[k] W)
 have C2:=Zh (fun (k:Nat) (hk:k < l.length) W (hb:Below w.heap.size w W)=>by
  have h:=jY0 a c (l.take k) l[k].time (by rw [List.length_take];omega) W (Xg.takeK (hR.grow hb) k)
  rwa [List.length_take,Nat.min_eq_left (Nat.le_of_lt hk)] at h)
 have C3:=Zh (fun (k:Nat) (hk:k < l.length) W (hb:Below w.heap.size w W)=>by
  have h:=xQo a c (l.take k) l[k].id (by rw [List.length_take];omega) W (Xg.takeK (hR.grow hb) k)
  rwa [List.length_take,Nat.min_eq_left (Nat.le_of_lt hk)] at h)
 clear hR;obtain ⟨V,hV⟩:∃ V,errO (qQg j l)=V:=⟨_,rfl⟩;rw [hV];have HV:=Zh hV;obtain ⟨R,hRR⟩:∃ R,okH (kQB j.parts) [] l=R:=⟨_,rfl⟩;have HR:Hid (R=okH (kQB j.parts) (l.take 0) (l.drop 0)):=Zh (by rw [<- hRR];rfl);have HRR:=Zh hRR;obtain ⟨mj,hmj⟩:∃ mj,mayJ j=mj:=⟨_,rfl⟩;have HMJ:=Zh hmj;rw [hmj] at CJ CM;rw [hRR] at CM;have HE1:Hid (R=false->(1:Int)=V):=Zh (fun h=>by rw [<- hV];unfold qQg;rw [hRR,h];simp [errO]);have HE2:Hid (mj=true->R=true->l.length < 30->errO (decide ((qQw j l).length=0))=V):=Zh (fun h1 h2 h3=>by rw [<- hV];unfold qQg;rw [hmj,hRR,h1,h2,decide_eq_true h3];rfl);obtain ⟨M,hM⟩:∃ M,qQw j l=M:=⟨_,rfl⟩;rw [hM] at HE2 CM;clear hV hRR hmj hM;obtain ⟨kd,ps,nd,wd⟩:=j;simp only at CJ CM C1 HR HRR HMJ HE1 HE2 ⊢;have HX:=Zh (Var.new w 43 [.string kd,.int .i64 ps,.int .i64 nd,.int .i64 wd]);have HB0:=Zh (Qj (.cells #[.string kd,.int .i64 ps,.int .i64 nd,.int .i64 wd] 43) (.refl w.heap.size w));go_enter Tryz.func229,Tryz.ntmps229;go_upto_region 1 with fail
 revert HX HB0;simp only [List.toArray];generalize w.alloc (.cells #[.string kd,.int .i64 ps,.int .i64 nd,.int .i64 wd] 43)=X;intro HX HB0;obtain ⟨x0,x1,x2,x3⟩:=v4 (HX.out);cases mj with
 | false=>
  go_wp2_with fail;refine (CJ.out _).mono ?_;rintro e w1 ⟨rfl,hb1⟩;have HB1:=Zh (Qk hb1 HB0.out);clear hb1 x0 x1 x2 x3 HX HB0 CJ;go_wp2_with fail;go_ret;exact ⟨Qy (by rw [<- HV.out];unfold qQg;rw [HMJ.out];rfl),HB1.out⟩
 | true=>
  by_cases h30:l.length < 30
  ·
   have y0:¬ ((30:Int)<=l.length):=by omega
   go_wp2_with fail;refine (CJ.out _).mono ?_;rintro e w1 ⟨rfl,hb1⟩;have HX1:=Zh (HX.out.grow hb1);have HB1:=Zh (Qk hb1 HB0.out);have hzw:w.heap.size < w1.heap.size:=HX1.out.lt;clear hb1 x0 x1 x2 x3 HX HB0 CJ;go_wp2_with fail;go_loopw [17] (fun i wr=>OkH (kQB ps) w1 l R i wr) (fun i _=>l.length - (intOf i).toNat)
   case atStart=>exact ⟨0,by omega,rfl,HR,Zh (.refl _ _)⟩
   case round=>
    clear HR;obtain ⟨k,hk,rfl,HP,HW⟩:=hrel;obtain ⟨wo,rfl⟩:∃ wo,wo=wr:=⟨_,rfl⟩;have HWW:=Zh (Qk HW.out HB1.out);have HXo:=Zh (HX1.out.grow HW.out);have hzo:w.heap.size < wo.heap.size:=HXo.out.lt;obtain ⟨x0,x1,x2,x3⟩:=v4 (HXo.out)
    by_cases hlt:k < l.length
    ·
     obtain ⟨b,o,ha,hb⟩:=(HF.out wo HWW.out).head hlt;subst ha;obtain ⟨_,f0,f1,f2⟩:=Xg.at (HF.out wo HWW.out).r hlt;have HST:Hid (R=(kQB ps (l.take k) l[k]&&okH (kQB ps) (l.take (k+1)) (l.drop (k+1)))):=Zh (HP.out.trans (kQl hlt));have D1:=Zh (C1.out k hlt);have D2:=Zh (C2.out k hlt);have D3:=Zh (C3.out k hlt);unfold kQB at HST;have x8:(k:Int) < l.length:=by omega
     have x9:(0:Int)<=k:=by omega
     have z1:(k:Int)<=c:=by omega
     have z2:k<=c:=by omega
     have HK:=Zh (Qk (Qj (.cells #[.int .i64 l[k].part,.int .u64 l[k].id,.int .i64 l[k].time] 155) (.refl wo.heap.size wo)) HWW.out);have HKW:=Zh (Qk (Qj (.cells #[.int .i64 l[k].part,.int .u64 l[k].id,.int .i64 l[k].time] 155) (.refl wo.heap.size wo)) HW.out);unfold KpB.val at D1;generalize xQw ps l[k]=fb at HST D1;generalize vQ5 (l.take k) l[k].time=eb at HST D2;generalize (l.take k).any (fun y=>(y.id:Int)==(l[k].id:Int))=tb at HST D3;clear HP;go_upto_region 6 with fail
     cases fb with
     | false=>
      have HN:Hid (R=false):=Zh (by rw [HST.out];rfl);clear HST;refine Tryst2.wp_region_text 20 (by kernel_rfl) (by kernel_rfl) ?_
      iterate 20 ((first | refine Tryst2.TW.skip (by rfl) ?_ | (refine' Tryst2.TW.op _ ?_ (by rfl) ?_;rotate_left;focus (intro w' hg;obtain ⟨hcg,hfg,hsg⟩:=YG hg;first | (go_simp;done) | (go_simp;with_reducible rfl) | (go_simp;first | (go_at_call 240;refine (D1.out _).mono ?_;rintro e w5 ⟨rfl,hb5⟩;refine ⟨hb5,?_⟩;with_reducible rfl) | (go_at_call 241;refine (D2.out _ (Tryst2.Grow.below hg HK.out)).mono ?_;rintro e w5 ⟨rfl,rfl⟩;refine ⟨Below.refl _ _,?_⟩;with_reducible rfl) | (go_at_call 242;refine (D3.out _ (Tryst2.Grow.below hg HK.out)).mono ?_;rintro e w5 ⟨rfl,hb5⟩;refine ⟨hb5,?_⟩;with_reducible rfl)))));simp only [Act.put,List.setIfInBounds_toArray,List.set_cons_zero,List.set_cons_succ])
      intro w' hg;obtain ⟨hcg,hfg,hsg⟩:=YG hg
      try change wpList _ _ _ [] _ _
      have HB9:=Zh (Tryst2.Grow.below hg HK.out);clear hg hcg hfg hsg;go_wp2_with fail;go_ret;exact ⟨Qy (HE1.out HN.out),HB9.out⟩
     | true=>
      cases eb with
      | true=>
       have HN:Hid (R=false):=Zh (by rw [HST.out];rfl);clear HST;refine Tryst2.wp_region_text 20 (by kernel_rfl) (by kernel_rfl) ?_
       iterate 20 ((first | refine Tryst2.TW.skip (by rfl) ?_ | (refine' Tryst2.TW.op _ ?_ (by rfl) ?_;rotate_left;focus (intro w' hg;obtain ⟨hcg,hfg,hsg⟩:=YG hg;first | (go_simp;done) | (go_simp;with_reducible rfl) | (go_simp;first | (go_at_call 240;refine (D1.out _).mono ?_;rintro e w5 ⟨rfl,hb5⟩;refine ⟨hb5,?_⟩;with_reducible rfl) | (go_at_call 241;refine (D2.out _ (Tryst2.Grow.below hg HK.out)).mono ?_;rintro e w5 ⟨rfl,rfl⟩;refine ⟨Below.refl _ _,?_⟩;with_reducible rfl) | (go_at_call 242;refine (D3.out _ (Tryst2.Grow.below hg HK.out)).mono ?_;rintro e w5 ⟨rfl,hb5⟩;refine ⟨hb5,?_⟩;with_reducible rfl)))));simp only [Act.put,List.setIfInBounds_toArray,List.set_cons_zero,List.set_cons_succ])
       intro w' hg;obtain ⟨hcg,hfg,hsg⟩:=YG hg
       try change wpList _ _ _ [] _ _
       have HB9:=Zh (Tryst2.Grow.below hg HK.out);clear hg hcg hfg hsg;go_wp2_with fail;go_ret;exact ⟨Qy (HE1.out HN.out),HB9.out⟩
      | false=>
       cases tb with
       | true=>
        have HN:Hid (R=false):=Zh (by rw [HST.out];rfl);clear HST;refine Tryst2.wp_region_text 20 (by kernel_rfl) (by kernel_rfl) ?_
        iterate 20 ((first | refine Tryst2.TW.skip (by rfl) ?_ | (refine' Tryst2.TW.op _ ?_ (by rfl) ?_;rotate_left;focus (intro w' hg;obtain ⟨hcg,hfg,hsg⟩:=YG hg;first | (go_simp;done) | (go_simp;with_reducible rfl) | (go_simp;first | (go_at_call 240;refine (D1.out _).mono ?_;rintro e w5 ⟨rfl,hb5⟩;refine ⟨hb5,?_⟩;with_reducible rfl) | (go_at_call 241;refine (D2.out _ (Tryst2.Grow.below hg HK.out)).mono ?_;rintro e w5 ⟨rfl,rfl⟩;refine ⟨Below.refl _ _,?_⟩;with_reducible rfl) | (go_at_call 242;refine (D3.out _ (Tryst2.Grow.below hg HK.out)).mono ?_;rintro e w5 ⟨rfl,hb5⟩;refine ⟨hb5,?_⟩;with_reducible rfl)))));simp only [Act.put,List.setIfInBounds_toArray,List.set_cons_zero,List.set_cons_succ])
        intro w' hg;obtain ⟨hcg,hfg,hsg⟩:=YG hg
        try change wpList _ _ _ [] _ _
        have HB9:=Zh (Tryst2.Grow.below hg HK.out);clear hg hcg hfg hsg;go_wp2_with fail;go_ret;exact ⟨Qy (HE1.out HN.out),HB9.out⟩
       | false=>
        have HN:Hid (R=okH (kQB ps) (l.take (k+1)) (l.drop (k+1))):=Zh (by rw [HST.out];rfl);clear HST;refine Tryst2.wp_region_text 20 (by kernel_rfl) (by kernel_rfl) ?_
        iterate 20 ((first | refine Tryst2.TW.skip (by rfl) ?_ | (refine' Tryst2.TW.op _ ?_ (by rfl) ?_;rotate_left;focus (intro w' hg;obtain ⟨hcg,hfg,hsg⟩:=YG hg;first | (go_simp;done) | (go_simp;with_reducible rfl) | (go_simp;first | (go_at_call 240;refine (D1.out _).mono ?_;rintro e w5 ⟨rfl,hb5⟩;refine ⟨hb5,?_⟩;with_reducible rfl) | (go_at_call 241;refine (D2.out _ (Tryst2.Grow.below hg HK.out)).mono ?_;rintro e w5 ⟨rfl,rfl⟩;refine ⟨Below.refl _ _,?_⟩;with_reducible rfl) | (go_at_call 242;refine (D3.out _ (Tryst2.Grow.below hg HK.out)).mono ?_;rintro e w5 ⟨rfl,hb5⟩;refine ⟨hb5,?_⟩;with_reducible rfl)))));simp only [Act.put,List.setIfInBounds_toArray,List.set_cons_zero,List.set_cons_succ])
        intro w' hg;obtain ⟨hcg,hfg,hsg⟩:=YG hg
        try change wpList _ _ _ [] _ _
        have HB9:=Zh (Tryst2.Grow.below hg HKW.out);clear hg hcg hfg hsg;go_wp2_with fail;go_roundw
        case rel=>exact ⟨k+1,by omega,by go_num,HN,HB9⟩
        case measure=>simp [intOf]<;>omega
    ·
     have HN:Hid (R=true):=Zh (HP.out.trans (zQj (by omega:l.length<=k)));have HE3:=Zh (HE2.out trivial HN.out h30);have CM2:=Zh (CM.out trivial HN.out wo HWW.out);clear HP HE1 HE2 CM C1 C2 C3;go_wp2_with fail;refine CM2.out.mono ?_;rintro e w5 ⟨a5,c5,rfl,_,hb5⟩;have HB5:=Zh (Qk hb5 HWW.out);clear hb5 CM2
     by_cases h0:M.length=0
     ·
      have y1:¬ (0:Int) < M.length:=by omega
      go_wp2_with fail;go_ret;exact ⟨Qy (by rw [<- HE3.out,decide_eq_true h0];rfl),HB5.out⟩
     ·
      have y1:(0:Int) < M.length:=by omega
      go_wp2_with fail;go_ret;exact ⟨Qy (by rw [<- HE3.out,decide_eq_false h0];rfl),HB5.out⟩
  ·
   have y0:(30:Int)<=l.length:=by omega
   go_wp2_with fail;refine (CJ.out _).mono ?_;rintro e w1 ⟨rfl,hb1⟩;have HB1:=Zh (Qk hb1 HB0.out);clear hb1 x0 x1 x2 x3 HX HB0 CJ;go_wp2_with fail;go_ret;exact ⟨Qy (by rw [<- HV.out];unfold qQg;rw [HMJ.out,decide_eq_false h30];rfl),HB1.out⟩
end Go.Proofs.YtcbicdencgjfiaaGreatDoor
namespace Go.Proofs.YtcbicdencgjfiaaGreatDoor
open Go Go.RowKit Tryst
structure InB where
 num:Bool
 n:Int
 s:ByteArray
 la:Option Addr
 l:List KpB
 lc:Nat
def InB.cells (x:InB):List Value:=[.bool x.num,.int .i64 x.n,.string x.s,.slice x.la x.l.length x.lc]
def InB.val (x:InB):Value:=.agg #[.bool x.num,.int .i64 x.n,.string x.s,.slice x.la x.l.length x.lc]
def InB.key (x:InB):V:=⟨x.num,x.n,x.s.data.toList⟩
structure InAt (w:World) (b o:Nat) (t:InB):Prop where
 c0:w.cell? ⟨b,o,none⟩=some (.bool t.num)
 c1:w.cell? ⟨b,o+1,none⟩=some (.int .i64 t.n)
 c2:w.cell? ⟨b,o+2,none⟩=some (.string t.s)
 c3:w.cell? ⟨b,o+3,none⟩=some (.slice t.la t.l.length t.lc)
structure Insts (w:World) (a:Option Addr) (l:List InB):Prop where
 row:Row w a 4 (l.map InB.cells)
 mem:∀ x∈l,Xg w x.la x.l
 cap:∀ x∈l,x.l.length<=x.lc
 ids:∀ x∈l,∀ y∈x.l,y.id < 2 ^ 64
theorem Insts.grow {w W:World} {a:Option Addr} {l:List InB} (h:Insts w a l) (hb:Below w.heap.size w W):Insts W a l:=⟨h.row.grow hb,fun x hx=>(h.mem x hx).grow hb,h.cap,h.ids⟩
theorem Insts.at {w:World} {b o:Nat} {l:List InB} (h:Insts w (some ⟨b,o,none⟩) l) {i:Nat} (hi:i < l.length):b < w.heap.size/\InAt w b (o+i*4) l[i]:=by
 obtain ⟨h1,h2⟩:=Row.at h.row (i:=i) (by simpa using hi);simp only [List.getElem_map] at h2;exact ⟨h1,h2 0 (by omega),h2 1 (by omega),h2 2 (by omega),h2 3 (by omega)⟩
theorem Insts.head {w:World} {a:Option Addr} {l:List InB} (h:Insts w a l) {i:Nat} (hi:i < l.length):∃ b o,a=some ⟨b,o,none⟩/\b < w.heap.size:=Row.head h.row (by simpa using hi)
def Xj:List InB->Nat
 | []=>0
 | x :: l=>x.l.length+Xj l
theorem kQd:∀ (l m:List InB),Xj (l++m)=Xj l+Xj m
 | [],m=>by simp [Xj]
 | x :: l,m=>by rw [List.cons_append,Xj,Xj,kQd l m];omega
theorem xQT {l:List InB} {k:Nat} (h:k < l.length):Xj (l.take (k+1))=Xj (l.take k)+l[k].l.length:=by
 rw [List.take_succ_eq_append_getElem h,kQd,Xj,Xj];omega
theorem zJ1 {l:List InB} (k:Nat):Xj (l.take k)<=Xj l:=by
 have h:=kQd (l.take k) (l.drop k);rw [List.take_append_drop] at h;omega
def idsK (p:List InB) (q:List KpB) (n:Nat):Bool:=p.any (fun x=>x.l.any (fun y=>decide (y.id=n)))||q.any (fun y=>decide (y.id=n))
def kQG (p:List InB) (q:List KpB) (x:KpB):Bool:=!(idsK p q x.id)
def kQ6 (j:JB) (p:List InB) (x:InB):Bool:=V.mayB x.key&&((match p.getLast? with | none=>true | some q=>decide (V.order q.key x.key < 0))&&(decide (x.l.length≠0)&&(qQg j x.l&&okH (kQG p) [] x.l)))
def qQM (j:JB) (l:List InB):Bool:=mayJ j&&(decide (l.length<=40)&&okH (kQ6 j) [] l)
theorem vQh (p:List InB) (q:List KpB) (x:KpB) (n:Nat):idsK p (q++[x]) n=(decide (x.id=n)||idsK p q n):=by
 unfold idsK;rw [List.any_append];simp only [List.any_cons,List.any_nil,Bool.or_false];cases p.any (fun x=>x.l.any (fun y=>decide (y.id=n)))<;>cases q.any (fun y=>decide (y.id=n))<;>cases decide (x.id=n)<;>rfl
theorem zJ3 (p:List InB) (x:InB) (n:Nat):idsK (p++[x]) [] n=idsK p x.l n:=by
 unfold idsK;rw [List.any_append];simp
def CntR (w:World) (l:List InB) (n i:Value) (wr:World):Prop:=∃ k:Nat,k<=l.length/\i=.int .i64 k/\n=.int .i64 (Xj (l.take k):Nat)/\Hid (Below w.heap.size w wr)
theorem zJg (a:Option Addr) (c:Nat) (l:List InB) (hl:l.length<=1500000) (hs:Xj l<=1000000000) (w:World) (hR:Insts w a l) :
  Calls Tryz.prog 213 #[.slice a l.length c] w fun e w'=>e=.returned (.int .i64 (Xj l:Nat))/\Below w.heap.size w w':=by
 have HF:=Zh (fun W (hb:Below w.heap.size w W)=>hR.grow hb);clear hR;obtain ⟨V,hV⟩:∃ V,Xj l=V:=⟨_,rfl⟩;rw [hV];have HV:=Zh hV;clear hV;go_enter Tryz.func213,Tryz.ntmps213;go_wp2_with fail;go_loopw [3,8] (fun n i wr=>CntR w l n i wr) (fun _ i _=>l.length - (intOf i).toNat)
 case atStart=>exact ⟨0,by omega,rfl,rfl,Zh (.refl _ _)⟩
 case round=>
  obtain ⟨k,hk,rfl,rfl,HW⟩:=hrel;obtain ⟨wo,rfl⟩:∃ wo,wo=wr:=⟨_,rfl⟩
  by_cases hlt:k < l.length
  ·
   obtain ⟨b,o,ha,hb⟩:=(HF.out wo HW.out).head hlt;subst ha;obtain ⟨_,f0,f1,f2,f3⟩:=(HF.out wo HW.out).at hlt;have x1:(k:Int) < l.length:=by omega
   have x2:(0:Int)<=k:=by omega
   have hct:=xQT hlt;have hcl:=zJ1 (l:=l) (k+1);have HCT:=Zh hct;obtain ⟨n,hn⟩:∃ n,Xj (l.take k)=n:=⟨_,rfl⟩;rw [hn] at hct ⊢;have y1:IntKind.i64.wrap ((n:Int)+(l[k].l.length:Int))=((n+l[k].l.length:Nat):Int):=by rw [IntWalk.i64_in _ (by omega)];omega
   have HN:=Zh hn;clear hn;have HB:=Zh (Qk (Qj (.cells #[.bool l[k].num,.int .i64 l[k].n,.string l[k].s,.slice l[k].la l[k].l.length l[k].lc] 130) (.refl wo.heap.size wo)) HW.out);go_wp2_with fail;go_roundw
   case rel=>exact ⟨k+1,by omega,by go_num,by (rw [HCT.out,HN.out];first | rfl | exact congrArg (Value.int .i64) (by omega)),HB⟩
   case measure=>simp [intOf]<;>omega
  ·
   have hkl:k=l.length:=by omega
   have HN:=Zh hkl;go_wp2_with fail;go_ret;exact ⟨Qy (by rw [<- HV.out,HN.out,List.take_length]),HW.out⟩
